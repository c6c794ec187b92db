/-
  From what the claim's form reads of an argument to the abstract values: a datum of the program's types that can be read stands for a plain tree. Conditions: none; lemmas over any program, then at the program's types.
-/
import Derived.Test.YtiiaccpcoclklaaGreatRows
import Derived.Deep.Slices
import Derived.Deep.Strs
import Derived.ProofKit
import Derived.Below
import Derived.Carry
import Derived.Test.YtiiaccpcoclklaaGreatCDfox311ab1
set_option linter.unusedSimpArgs false
set_option linter.unusedVariables false
namespace Go.Proofs.YtiiaccpcoclklaaGreat
namespace Abs
open Go Go.Proofs Go.Deep
def oM (w : World) (κ : dL) (pv : iT) (xs : List AV) (cs : List Value) : Prop := cs.length = xs.length ∧ ∀ j, j < xs.length → Rel w κ pv (xs.getD j .unk) (cs.getD j undef)
theorem oM.one {w : World} {κ : dL} {pv : iT} {x : AV} {v : Value} (h : Rel w κ pv x v) : oM w κ pv [x] [v] := ⟨rfl, fun j hj => by
 have : j = 0 := by simp at hj; omega
 subst this; exact h⟩
theorem oM.app {w : World} {κ : dL} {pv : iT} {xs ys : List AV} {cs ds : List Value} (h : oM w κ pv xs cs) (k : oM w κ pv ys ds) : oM w κ pv (xs ++ ys) (cs ++ ds) := by
 refine ⟨by simp [h.1, k.1], fun j hj => ?_⟩
 by_cases hx : j < xs.length
 ·have e1 : (xs ++ ys).getD j .unk = xs.getD j .unk := by simp [List.getD, List.getElem?_append_left hx]
  have e2 : (cs ++ ds).getD j undef = cs.getD j undef := by simp [List.getD, List.getElem?_append_left (show j < cs.length by rw [h.1]; exact hx)]
  rw [e1, e2]; exact h.2 j hx
 ·have e1 : (xs ++ ys).getD j .unk = ys.getD (j - xs.length) .unk := by simp [List.getD, List.getElem?_append_right (Nat.le_of_not_lt hx)]
  have e2 : (cs ++ ds).getD j undef = ds.getD (j - xs.length) undef := by simp [List.getD, List.getElem?_append_right (show cs.length ≤ j by rw [h.1]; omega), h.1]
  rw [e1, e2]; exact k.2 _ (by simp at hj; omega)
theorem oM.split {w : World} {κ : dL} {pv : iT} {xs ys : List AV} {cs : List Value} (hl : cs.length = xs.length + ys.length) (h : oM w κ pv xs (cs.take xs.length)) (k : oM w κ pv ys ((cs.drop xs.length).take ys.length)) : oM w κ pv (xs ++ ys) cs := by
 have := h.app k
 have e : cs.take xs.length ++ (cs.drop xs.length).take ys.length = cs := by
  rw [List.take_of_length_le (l := cs.drop xs.length) (by simp; omega), List.take_append_drop]
 rwa [e] at this
section
variable {H : Type} {enc : TypeId × Value → H} {P : Program} {w : World} {base : Nat} {spare : Nat → Bool} {held : Bool} {κ : dL} {pv : iT}
def Reads (enc : TypeId × Value → H) (P : Program) (w : World) (base : Nat) (spare : Nat → Bool) (held : Bool) (κ : dL) (pv : iT) {α : Type} (t : TypeId) (f : α → List AV) (fuel : Nat) : Prop :=
 ∀ cs x, DataW.trod enc P w base spare held fuel t cs = some x → ∃ a : α, oM w κ pv (f a) cs
theorem IQ {t : TypeId} (ht : P.underlying t = some (.int .i64)) (fuel : Nat) : Reads enc P w base spare held κ pv t encI fuel := fun cs x h => by
 obtain ⟨n, rfl, _, hw⟩ := DataW.trod_int ht h
 refine ⟨n, oM.one (.int ?_)⟩
 simpa [Lit.wf, DJ] using hw
theorem FP {t : TypeId} (ht : P.underlying t = some .string) (fuel : Nat) : Reads enc P w base spare held κ pv t encS fuel := fun cs x h => by
 obtain ⟨s, rfl, _, hw⟩ := DataW.trod_string ht h
 refine ⟨s.data.toList, oM.one ?_⟩
 have := Rel.str (w := w) (κ := κ) (pv := pv) (s := s.data.toList) (by
  have : s.data.size ≤ maxLen := hw
  simpa [maxLen] using this)
 simpa using this
theorem y8 {α : Type} [Inhabited α] {t e : TypeId} {f : α → List AV} {sz : Nat} (ht : P.underlying t = some (.slice e)) (hc : P.cellsOf e = sz) (hsz : 0 < sz) (hf : ∀ a, (f a).length = sz) (hpv : ∀ b o, ¬ pv b o) {fuel : Nat}
  (he : ∀ n, n < fuel → Reads enc P w base spare held κ pv e f n) : Reads enc P w base spare held κ pv t (fun l : List α => [.slice (l.map f) .shared]) fuel := fun cs x h => by
 rcases DataW.trod_slice ht h with ⟨rfl, _⟩ | ⟨a, len, cap, elems, rest, m, rfl, rfl, _, _, hcap, hmax, hel, hget0, _, _⟩
 ·refine ⟨[], oM.one ?_⟩
  exact .slice (es := []) (tag := .shared) (a := none) (cap := 0) 0 0 sz (fun _ _ => undef) (fun i h => by cases h) (fun h => (h rfl).elim) (Nat.zero_le _) (by simp) (fun i j h => by cases h) (fun i j h => by cases h) (fun i j h => by cases h) trivial
 ·have hget : ∀ i, i < len → ∃ v : List Value × α, w.cells? base (a.add (i * sz)) sz = some v.1 ∧ oM w κ pv (f v.2) v.1 := fun i hi => by
   have h1 := hget0 i hi
   rw [List.getElem?_eq_getElem (by omega), hc] at h1
   obtain ⟨cs', h2, h3⟩ := Option.bind_eq_some_iff.1 h1
   obtain ⟨y, hy⟩ := he m (Nat.lt_succ_self m) cs' _ h3
   exact ⟨(cs', y), h2, hy⟩
  obtain ⟨V, hV⟩ := choose_lt hget
  refine ⟨(List.range len).map fun i => (V i).2, oM.one ?_⟩
  have hlen : (((List.range len).map fun i => (V i).2).map f).length = len := by simp
  have hgetD : ∀ i, i < len → (((List.range len).map fun i => (V i).2).map f).getD i [] = f (V i).2 := fun i hi => by
   simp [List.getD, List.getElem?_map, List.getElem?_range hi]
  have hcell : ∀ i j, i < len → j < sz → w.cell? ((a.add (i * sz)).add j) = some ((V i).1.getD j undef) := fun i j hi hj => by
   obtain ⟨_, h2, h3⟩ := World.cells?_some (hV i hi).1
   rw [h3 j hj, List.getD, List.getElem?_eq_getElem (by omega)]
   rfl
  have hspot : 0 < len → a.spot = none := fun h0 => by
   have := World.cell?_spot (hcell 0 0 h0 hsz)
   simpa [Addr.add] using this
  have hadd : ∀ i j : Nat, a.spot = none → (a.add i).add j = ⟨a.block, a.off + (i + j), none⟩ := fun i j hs => by
   obtain ⟨b, o, s⟩ := a
   simp only at hs
   subst hs
   unfold Addr.add
   by_cases hi : i = 0
   ·subst hi
    by_cases hj : j = 0
    ·subst hj; simp
    ·simp [hj]
   ·by_cases hj : j = 0
    ·subst hj; simp [hi]
    ·simp [hi, hj]; omega
  have key := Rel.slice (w := w) (κ := κ) (pv := pv) (es := ((List.range len).map fun i => (V i).2).map f) (tag := .shared) (a := some a) (cap := cap) a.block a.off sz (fun i j => (V i).1.getD j undef)
   (fun i hi => by rw [hlen] at hi; rw [hgetD i hi, hf]) (fun hne => by
    have h0 : 0 < len := by
     apply Nat.pos_of_ne_zero
     intro h0
     apply hne
     rw [h0]; rfl
    rw [← hspot h0]) (by rw [hlen]; exact hcap) (by rw [hlen]; simp only [maxLen] at hmax; omega)
   (fun i j _ _ => hpv _ _) (fun i j hi hj => by
    rw [hlen] at hi
    have h1 := hcell i j hi hj
    rw [hadd _ _ (hspot (by omega))] at h1
    exact h1)
   (fun i j hi hj => by
    rw [hlen] at hi
    rw [hgetD i hi]
    exact (hV i hi).2.2 j (by rw [hf]; exact hj)) trivial
  rw [hlen] at key
  exact key
end
instance : Inhabited Ty := ⟨.mk 0 [] []⟩
instance : Inhabited Carrier := ⟨⟨[], []⟩⟩
instance : Inhabited Decl := ⟨⟨[], .mk 0 [] []⟩⟩
theorem laidOut : laidOutB Tryz.prog = true := by kernel_rfl
theorem cl9 : Tryz.prog.cellsOf 9 = 1 := by kernel_rfl
theorem al4 : Tryz.prog.cellsOf 28 = 3 := by kernel_rfl
theorem auy : Tryz.prog.cellsOf 91 = 2 := by kernel_rfl
theorem auh : Tryz.prog.cellsOf 60 = 4 := by kernel_rfl
theorem atH : Tryz.prog.cellsOf 25 = 2 := by kernel_rfl
theorem cl3 : Tryz.prog.cellsOf 3 = 1 := by kernel_rfl
theorem avZ : Tryz.prog.cellsOf 26 = 1 := by kernel_rfl
theorem avV : Tryz.prog.cellsOf 49 = 1 := by kernel_rfl
theorem avW : Tryz.prog.cellsOf 22 = 1 := by kernel_rfl
theorem awj : Tryz.prog.cellsOf 23 = 1 := by kernel_rfl
end Abs
end Go.Proofs.YtiiaccpcoclklaaGreat
namespace Go.Proofs.YtiiaccpcoclklaaGreat
namespace Abs
open Go Go.Proofs Go.Deep Go.WideShapes
section
variable {H : Type} {enc : TypeId × Value → H} {w : World} {base : Nat} {spare : Nat → Bool} {held : Bool} {κ : dL} {pv : iT}
theorem zS {α : Type} {xs : List α} {i n : Nat} (h : xs.length = n) (hi : i < n) : ∃ y, xs[i]? = some y := ⟨xs[i]'(by omega), List.getElem?_eq_getElem (by omega)⟩
theorem apr (t : Ty) : (aI t).length = 3 := by rw [aR]; rfl
set_option maxRecDepth 100000 in
theorem LD (hpv : ∀ b o, ¬ pv b o) (fuel : Nat) : Reads enc Tryz.prog w base spare held κ pv 28 aI fuel := by
 induction fuel using Nat.strongRecOn with
 | _ fuel ih =>
  intro cs x h
  obtain ⟨xs, n, rfl, _, hl, hlen, hf⟩ := DataW.trod_struct Tryz.underlying28 h
  rw [al4] at hl
  match cs, hl with
  | [c0, c1, c2], _ =>
   obtain ⟨y0, e0⟩ := zS (i := 0) hlen (by decide)
   obtain ⟨y1, e1⟩ := zS (i := 1) hlen (by decide)
   obtain ⟨y2, e2⟩ := zS (i := 2) hlen (by decide)
   have h0 := hf 0 _ rfl
   have h1 := hf 1 _ rfl
   have h2 := hf 2 _ rfl
   simp only [e0, cl3, List.drop_zero, List.take_succ_cons, List.take_zero] at h0
   simp only [e1, cl9, List.drop_succ_cons, List.drop_zero, List.take_succ_cons, List.take_zero] at h1
   simp only [e2, avZ, List.drop_succ_cons, List.drop_zero, List.take_succ_cons, List.take_zero] at h2
   obtain ⟨k, hk⟩ := IQ (κ := κ) (pv := pv) Tryz.underlying3 n _ _ h0
   obtain ⟨nm, hn⟩ := FP (κ := κ) (pv := pv) Tryz.underlying9 n _ _ h1
   obtain ⟨ks, hks⟩ := y8 (f := aI) Tryz.underlying26 al4 (by decide) apr hpv (fun m hm => ih m (by omega)) _ _ h2
   refine ⟨.mk k nm ks, ?_⟩
   have := hk.app (hn.app hks)
   rw [aR]
   exact this
set_option maxRecDepth 100000 in
theorem alX (hpv : ∀ b o, ¬ pv b o) (fuel : Nat) : Reads enc Tryz.prog w base spare held κ pv 49 (fun l : List Str => [.slice (l.map encS) .shared]) fuel :=
 y8 (f := encS) Tryz.underlying49 cl9 (by decide) (fun _ => rfl) hpv (fun m _ => FP Tryz.underlying9 m)
set_option maxRecDepth 100000 in
theorem agO (hpv : ∀ b o, ¬ pv b o) (fuel : Nat) : Reads enc Tryz.prog w base spare held κ pv 91 aL fuel := by
 intro cs x h
 obtain ⟨xs, n, rfl, _, hl, hlen, hf⟩ := DataW.trod_struct Tryz.underlying91 h
 rw [auy] at hl
 match cs, hl with
 | [c0, c1], _ =>
  obtain ⟨y0, e0⟩ := zS (i := 0) hlen (by decide)
  obtain ⟨y1, e1⟩ := zS (i := 1) hlen (by decide)
  have h0 := hf 0 _ rfl
  have h1 := hf 1 _ rfl
  simp only [e0, cl9, List.drop_zero, List.take_succ_cons, List.take_zero] at h0
  simp only [e1, avV, List.drop_succ_cons, List.drop_zero, List.take_succ_cons, List.take_zero] at h1
  obtain ⟨nm, hn⟩ := FP (κ := κ) (pv := pv) Tryz.underlying9 n _ _ h0
  obtain ⟨es, hes⟩ := alX hpv n _ _ h1
  exact ⟨⟨nm, es⟩, hn.app hes⟩
set_option maxRecDepth 100000 in
theorem anc (hpv : ∀ b o, ¬ pv b o) (fuel : Nat) : Reads enc Tryz.prog w base spare held κ pv 60 aO fuel := by
 intro cs x h
 obtain ⟨xs, n, rfl, _, hl, hlen, hf⟩ := DataW.trod_struct Tryz.underlying60 h
 rw [auh] at hl
 match cs, hl with
 | [c0, c1, c2, c3], _ =>
  obtain ⟨y0, e0⟩ := zS (i := 0) hlen (by decide)
  obtain ⟨y1, e1⟩ := zS (i := 1) hlen (by decide)
  have h0 := hf 0 _ rfl
  have h1 := hf 1 _ rfl
  simp only [e0, cl9, List.drop_zero, List.take_succ_cons, List.take_zero] at h0
  simp only [e1, al4, List.drop_succ_cons, List.drop_zero, List.take_succ_cons, List.take_zero] at h1
  obtain ⟨nm, hn⟩ := FP (κ := κ) (pv := pv) Tryz.underlying9 n _ _ h0
  obtain ⟨t, ht⟩ := LD hpv n _ _ h1
  refine ⟨⟨nm, t⟩, ?_⟩
  have := hn.app ht
  rw [aR] at this
  exact this
def rD (e : Env) : List AV := [.slice (e.carriers.map aL) .shared, .slice (e.names.map aO) .shared]
set_option maxRecDepth 100000 in
theorem nX (hpv : ∀ b o, ¬ pv b o) (fuel : Nat) : Reads enc Tryz.prog w base spare held κ pv 25 rD fuel := by
 intro cs x h
 obtain ⟨xs, n, rfl, _, hl, hlen, hf⟩ := DataW.trod_struct Tryz.underlying25 h
 rw [atH] at hl
 match cs, hl with
 | [c0, c1], _ =>
  obtain ⟨y0, e0⟩ := zS (i := 0) hlen (by decide)
  obtain ⟨y1, e1⟩ := zS (i := 1) hlen (by decide)
  have h0 := hf 0 _ rfl
  have h1 := hf 1 _ rfl
  simp only [e0, avW, List.drop_zero, List.take_succ_cons, List.take_zero] at h0
  simp only [e1, awj, List.drop_succ_cons, List.drop_zero, List.take_succ_cons, List.take_zero] at h1
  obtain ⟨cs, hcs⟩ := y8 (f := aL) Tryz.underlying22 auy (by decide) (fun _ => rfl) hpv (fun m _ => agO hpv m) _ _ h0
  obtain ⟨ds, hds⟩ := y8 (f := aO) Tryz.underlying23 auh (by decide) (fun _ => rfl) hpv (fun m _ => anc hpv m) _ _ h1
  exact ⟨⟨cs, ds⟩, hcs.app hds⟩
set_option maxRecDepth 100000 in
theorem fM {α : Type} {r : Reach} {b0 : Nat} {t : TypeId} {fs : Array Field} {f : α → List AV} {v : Value} {d : DataW H} {p : List MemPlace} (hs : Tryz.prog.underlying t = some (.struct fs)) (hv : Value.okWide Tryz.prog w r b0 t v)
  (h : DataW.Trod enc Tryz.prog w base spare held t v d p) (hr : ∀ fuel, Reads enc Tryz.prog w base spare held κ pv t f fuel) : ∃ a : α, Rel w κ pv (.agg (f a)) v := by
 obtain ⟨cs, rfl, hsz⟩ := okWide_struct hs hv
 obtain ⟨fuel, hf⟩ := h
 obtain ⟨a, h1, h2⟩ := hr fuel _ _ hf
 simp only [Value.cells] at h1 h2
 refine ⟨a, ?_⟩
 have := Rel.agg (w := w) (κ := κ) (pv := pv) h1 h2
 simpa using this
end
set_option maxRecDepth 100000 in
theorem at6 (w : World) : Entry [] (fun _ _ => False) [] w :=
 ⟨rfl, fun l _ => rfl, fun l b h => by simp [at?] at h, fun l l' b h => by simp [at?] at h, fun l b h => by simp [at?] at h, fun _ _ h => h.elim, fun _ _ _ h => h.elim⟩
set_option maxRecDepth 100000 in
theorem bH : ∀ b o, ¬ bB (fun _ _ => False) [] [] b o := fun b o h => by
 rcases h with h | ⟨l, h, _⟩
 ·exact h
 ·simp [at?] at h
set_option maxRecDepth 100000 in
theorem tC {f : Nat} {args : List AV} {vs : List Value} {w : World} (h : aB Tryz.prog f args [] (.bool true) []) (hl : vs.length = args.length)
  (hr : ∀ j, j < args.length → Rel w [] (bB (fun _ _ => False) [] []) (args.getD j .unk) (vs.getD j undef)) :
  Calls Tryz.prog f vs.toArray w fun e w' => e = .returned (.bool true) ∧ Go.RowKit.Below w.heap.size w w' := by
 refine (h [] (fun _ _ => False) w vs (at6 w) hl hr).mono fun e w' ⟨v, κ', he, hL, hv⟩ => ?_
 cases hv
 exact ⟨he, hL.os, hL.tape, hL.output, hL.evo.size, fun k hk => hL.kept k hk fun l h => by simp [at?] at h⟩
theorem lg {env : Env} {w : World} {κ : dL} {pv : iT} {v : Value} (h : Rel w κ pv (.agg (rD env)) v) : ∀ d ∈ env.names, d.name.length ≤ 9223372036854775807 := by
 cases h with
 | @agg _ vs hl hj =>
  have h1 := hj 1 (by simp [rD])
  intro d hd
  obtain ⟨i, hi, rfl⟩ := List.mem_iff_getElem.1 hd
  have e : (rD env).getD 1 .unk = .slice (env.names.map aO) .shared := rfl
  rw [e] at h1
  generalize vs.getD 1 undef = u at h1
  cases h1 with
  | slice b off sz f h1 h2 h3 h3' h4 h5 h6 _ =>
   have hi' : i < (env.names.map aO).length := by simpa using hi
   have eg : (env.names.map aO).getD i [] = aO env.names[i] := by simp [List.getD, List.getElem?_map, List.getElem?_eq_getElem hi]
   have hsz := h1 i hi'
   rw [eg] at hsz
   have hz : sz = 4 := hsz.symm
   have := h6 i 0 hi' (by omega)
   rw [eg] at this
   have e2 : (aO env.names[i]).getD 0 .unk = .str env.names[i].name := rfl
   rw [e2] at this
   generalize f i 0 = g at this
   cases this
   assumption
end Abs
end Go.Proofs.YtiiaccpcoclklaaGreat
namespace Go.Proofs.YtiiaccpcoclklaaGreat
namespace Abs
open Go
def Ev {α : Type} (f : Nat → Option α) (v : α) : Prop := ∃ N, ∀ n, N ≤ n → f n = some v
theorem Ev.ret {α : Type} (v : α) : Ev (fun _ => some v) v := ⟨0, fun _ _ => rfl⟩
theorem Ev.of {α : Type} {f : Nat → Option α} {v : α} (h : ∀ n, f n = some v) : Ev f v := ⟨0, fun n _ => h n⟩
theorem Ev.bind {α β : Type} {f : Nat → Option α} {g : α → Nat → Option β} {a : α} {b : β} (h1 : Ev f a) (h2 : Ev (g a) b) : Ev (fun n => (f n).bind fun x => g x n) b := by
 obtain ⟨N, hN⟩ := h1
 obtain ⟨M, hM⟩ := h2
 refine ⟨max N M, fun n hn => ?_⟩
 show (f n).bind (fun x => g x n) = some b
 rw [hN n (by omega)]
 exact hM n (by omega)
theorem Ev.succ {α : Type} {f : Nat → Option α} {v : α} (h : Ev (fun n => f (n + 1)) v) : Ev f v := by
 obtain ⟨N, hN⟩ := h
 refine ⟨N + 1, fun n hn => ?_⟩
 cases n with
 | zero => omega
 | succ n => exact hN n (by omega)
theorem Ev.eq {α : Type} {f : Nat → Option α} {v w : α} (h : Ev f v) (e : v = w) : Ev f w := e ▸ h
theorem Ev.pos {α : Type} {b : Bool} {f g : Nat → Option α} {v : α} (hb : b = true) (h1 : Ev f v) : Ev (fun n => cond b (f n) (g n)) v := by subst hb; exact h1
theorem Ev.neg {α : Type} {b : Bool} {f g : Nat → Option α} {v : α} (hb : b = false) (h1 : Ev g v) : Ev (fun n => cond b (f n) (g n)) v := by subst hb; exact h1
theorem Ev.uniq {α : Type} {f : Nat → Option α} {v w : α} (h1 : Ev f v) (h2 : Ev f w) : v = w := by
 obtain ⟨N, hN⟩ := h1
 obtain ⟨M, hM⟩ := h2
 have := hN (max N M) (by omega)
 rw [hM (max N M) (by omega)] at this
 exact (Option.some.inj this).symm
def lY {α σ τ ρ : Type} (st : α → σ → LR σ ρ) (fin : σ → τ) : List α → σ → LR τ ρ
 | [], s => .nx (fin s)
 | x :: xs, s => match st x s with
  | .nx s' => lY st fin xs s'
  | .rt r => .rt r
theorem BA {α : Type} (pre : List α) (x : α) (suf : List α) : idx (pre ++ x :: suf) (pre.length : Int) = some x := by
 unfold idx
 rw [if_pos (by omega)]
 simp
theorem ajd {α σ τ ρ : Type} (l : List α) (L : Nat → Nat → Int → σ → Option (LR τ ρ)) (step : Nat → α → σ → Option (LR σ ρ)) (st : α → σ → LR σ ρ) (fin : σ → τ) (I : List α → σ → Prop)
  (hL : ∀ n k i s, L n (k + 1) i s = cond (decide (i < (l.length : Int))) ((idx l i).bind fun x => (step n x s).bind (LR.el (fun s' => L n k (i + 1) s') (fun r => some (.rt r)))) (some (.nx (fin s))))
  (hI : ∀ x suf s, x ∈ l → I (x :: suf) s → Ev (fun n => step n x s) (st x s) ∧ ∀ s', st x s = .nx s' → I suf s') (pre suf : List α) (hl : l = pre ++ suf) {s0 : σ} (h0 : I suf s0) : Ev (fun n => L n n (pre.length : Int) s0) (lY st fin suf s0) := by
 have key : ∀ (suf pre : List α) (s : σ), l = pre ++ suf → I suf s → ∃ N, ∀ n, N ≤ n → ∀ k, suf.length + 1 ≤ k → L n k (pre.length : Int) s = some (lY st fin suf s) := by
  intro suf
  induction suf with
  | nil =>
   intro pre s hl _
   refine ⟨0, fun n _ k hk => ?_⟩
   cases k with
   | zero => simp at hk
   | succ k =>
    rw [hL, decide_eq_false (by rw [hl]; simp)]
    rfl
  | cons x suf ih =>
   intro pre s hl hIs
   obtain ⟨⟨N1, h1⟩, h2⟩ := hI x suf s (by rw [hl]; simp) hIs
   replace h1 : ∀ n, N1 ≤ n → step n x s = some (st x s) := h1
   have hi : decide ((pre.length : Int) < (l.length : Int)) = true := decide_eq_true (by rw [hl]; simp; omega)
   have hx : idx l (pre.length : Int) = some x := by rw [hl]; exact BA pre x suf
   cases hs : st x s with
   | rt r =>
    refine ⟨N1, fun n hn k hk => ?_⟩
    cases k with
    | zero => simp at hk
    | succ k =>
     rw [hL, hi, hx]
     simp only [cond_true, Option.bind_some]
     rw [h1 n hn, hs]
     simp [lY, hs]
   | nx s' =>
    obtain ⟨N2, h3⟩ := ih (pre ++ [x]) s' (by rw [hl]; simp) (h2 s' hs)
    refine ⟨max N1 N2, fun n hn k hk => ?_⟩
    cases k with
    | zero => simp at hk
    | succ k =>
     rw [hL, hi, hx]
     simp only [cond_true, Option.bind_some]
     rw [h1 n (by omega), hs]
     simp only [Option.bind_some, LR.el]
     have := h3 n (by omega) k (by simp at hk; omega)
     simp only [List.length_append, List.length_singleton, Int.natCast_add, Int.natCast_one] at this
     rw [this]
     simp [lY, hs]
 obtain ⟨N, hN⟩ := key suf pre s0 hl h0
 exact ⟨max N (suf.length + 1), fun n hn => hN n (by omega) n (by omega)⟩
theorem Em {α σ τ ρ : Type} (l : List α) (L : Nat → Nat → Int → σ → Option (LR τ ρ)) (step : Nat → α → σ → Option (LR σ ρ)) (st : α → σ → LR σ ρ) (fin : σ → τ) (I : List α → σ → Prop)
  (hL : ∀ n k i s, L n (k + 1) i s = cond (decide (i < (l.length : Int))) ((idx l i).bind fun x => (step n x s).bind (LR.el (fun s' => L n k (i + 1) s') (fun r => some (.rt r)))) (some (.nx (fin s))))
  (hI : ∀ x suf s, x ∈ l → I (x :: suf) s → Ev (fun n => step n x s) (st x s) ∧ ∀ s', st x s = .nx s' → I suf s') {s0 : σ} (h0 : I l s0) : Ev (fun n => L n n 0 s0) (lY st fin l s0) :=
 ajd l L step st fin I hL hI [] l rfl h0
theorem U4 {α ρ : Type} (p : α → Bool) (r : ρ) : ∀ (l : List α) (u : Unit), lY (τ := Unit) (fun x _ => cond (p x) (.rt r) (.nx ())) (fun _ => ()) l u = cond (l.any p) (.rt r) (.nx ())
 | [], _ => rfl
 | x :: xs, u => by
  simp only [lY, List.any_cons]
  cases p x
  ·exact U4 p r xs ()
  ·rfl
theorem aaW {α ρ : Type} (l : List α) (L : Nat → Nat → Int → Option (LR Unit ρ)) (step : Nat → α → Option Bool) (p : α → Bool) (r : ρ)
  (hL : ∀ n k i, L n (k + 1) i = cond (decide (i < (l.length : Int))) ((idx l i).bind fun x => (step n x).bind fun b => cond b (some (.rt r)) (L n k (i + 1))) (some (.nx ())))
  (hp : ∀ x ∈ l, Ev (fun n => step n x) (p x)) (pre suf : List α) (hl : l = pre ++ suf) : Ev (fun n => L n n (pre.length : Int)) (cond (suf.any p) (.rt r) (.nx ())) := by
 have := ajd l (fun n k i (_ : Unit) => L n k i) (fun n x _ => (step n x).bind fun b => cond b (some (.rt r)) (some (.nx ()))) (fun x _ => cond (p x) (.rt r) (.nx ())) (fun _ => ()) (fun _ _ => True)
  (fun n k i s => by
   rw [hL]
   congr 1
   congr 1
   funext x
   cases step n x with
   | none => rfl
   | some b => cases b <;> rfl)
  (fun x suf s hx _ => ⟨by
   refine Ev.bind (hp x hx) ?_
   cases p x
   ·exact Ev.ret _
   ·exact Ev.ret _, fun _ _ => trivial⟩) pre suf hl (s0 := ()) trivial
 rw [U4] at this
 exact this
theorem jI {α ρ : Type} (l : List α) (L : Nat → Nat → Int → Option (LR Unit ρ)) (step : Nat → α → Option Bool) (p : α → Bool) (r : ρ)
  (hL : ∀ n k i, L n (k + 1) i = cond (decide (i < (l.length : Int))) ((idx l i).bind fun x => (step n x).bind fun b => cond b (some (.rt r)) (L n k (i + 1))) (some (.nx ())))
  (hp : ∀ x ∈ l, Ev (fun n => step n x) (p x)) : Ev (fun n => L n n 0) (cond (l.any p) (.rt r) (.nx ())) := aaW l L step p r hL hp [] l rfl
def dX {α σ τ ρ : Type} (st : Int → α → σ → LR σ ρ) (fin : σ → τ) : Int → List α → σ → LR τ ρ
 | _, [], s => .nx (fin s)
 | i, x :: xs, s => match st i x s with
  | .nx s' => dX st fin (i + 1) xs s'
  | .rt r => .rt r
theorem Hw {α σ τ ρ : Type} (l : List α) (L : Nat → Nat → Int → σ → Option (LR τ ρ)) (step : Nat → Int → α → σ → Option (LR σ ρ)) (st : Int → α → σ → LR σ ρ) (fin : σ → τ) (I : Int → List α → σ → Prop)
  (hL : ∀ n k i s, L n (k + 1) i s = cond (decide (i < (l.length : Int))) ((idx l i).bind fun x => (step n i x s).bind (LR.el (fun s' => L n k (i + 1) s') (fun r => some (.rt r)))) (some (.nx (fin s))))
  (hI : ∀ i x suf s, x ∈ l → I i (x :: suf) s → Ev (fun n => step n i x s) (st i x s) ∧ ∀ s', st i x s = .nx s' → I (i + 1) suf s') {s0 : σ} (h0 : I 0 l s0) : Ev (fun n => L n n 0 s0) (dX st fin 0 l s0) := by
 have key : ∀ (suf pre : List α) (s : σ), l = pre ++ suf → I (pre.length : Int) suf s → ∃ N, ∀ n, N ≤ n → ∀ k, suf.length + 1 ≤ k → L n k (pre.length : Int) s = some (dX st fin (pre.length : Int) suf s) := by
  intro suf
  induction suf with
  | nil =>
   intro pre s hl _
   refine ⟨0, fun n _ k hk => ?_⟩
   cases k with
   | zero => simp at hk
   | succ k =>
    rw [hL, decide_eq_false (by rw [hl]; simp)]
    rfl
  | cons x suf ih =>
   intro pre s hl hIs
   obtain ⟨⟨N1, h1⟩, h2⟩ := hI _ x suf s (by rw [hl]; simp) hIs
   replace h1 : ∀ n, N1 ≤ n → step n (pre.length : Int) x s = some (st (pre.length : Int) x s) := h1
   have hi : decide ((pre.length : Int) < (l.length : Int)) = true := decide_eq_true (by rw [hl]; simp; omega)
   have hx : idx l (pre.length : Int) = some x := by rw [hl]; exact BA pre x suf
   cases hs : st (pre.length : Int) x s with
   | rt r =>
    refine ⟨N1, fun n hn k hk => ?_⟩
    cases k with
    | zero => simp at hk
    | succ k =>
     rw [hL, hi, hx]
     simp only [cond_true, Option.bind_some]
     rw [h1 n hn, hs]
     simp [dX, hs]
   | nx s' =>
    have h3 := h2 s' hs
    have e : ((pre ++ [x]).length : Int) = (pre.length : Int) + 1 := by simp
    obtain ⟨N2, h4⟩ := ih (pre ++ [x]) s' (by rw [hl]; simp) (by rw [e]; exact h3)
    refine ⟨max N1 N2, fun n hn k hk => ?_⟩
    cases k with
    | zero => simp at hk
    | succ k =>
     rw [hL, hi, hx]
     simp only [cond_true, Option.bind_some]
     rw [h1 n (by omega), hs]
     simp only [Option.bind_some, LR.el]
     have := h4 n (by omega) k (by simp at hk; omega)
     rw [e] at this
     rw [this]
     simp [dX, hs]
 obtain ⟨N, hN⟩ := key l [] s0 rfl h0
 exact ⟨max N (l.length + 1), fun n hn => hN n (by omega) n (by omega)⟩
def qZ {α : Type} (p : α → Bool) : Int → List α → Int
 | _, [] => -1
 | i, x :: xs => cond (p x) i (qZ p (i + 1) xs)
theorem agi {α : Type} (p : α → Bool) : ∀ (l : List α) (i : Int), (match dX (τ := Unit) (fun i x _ => cond (p x) (.rt i) (.nx ())) (fun _ => ()) i l () with | .nx _ => (-1 : Int) | .rt r => r) = qZ p i l
 | [], _ => rfl
 | x :: xs, i => by
  simp only [dX, qZ]
  cases p x
  ·exact agi p xs (i + 1)
  ·rfl
theorem xu {α : Type} (l : List α) (L : Nat → Nat → Int → Option (LR Unit Int)) (step : Nat → α → Option Bool) (p : α → Bool)
  (hL : ∀ n k i, L n (k + 1) i = cond (decide (i < (l.length : Int))) ((idx l i).bind fun x => (step n x).bind fun b => cond b (some (.rt i)) (L n k (i + 1))) (some (.nx ())))
  (hp : ∀ x ∈ l, Ev (fun n => step n x) (p x)) : Ev (fun n => (L n n 0).bind (LR.el (fun _ => some (-1)) (fun r => some r))) (qZ p 0 l) := by
 have := Hw l (fun n k i (_ : Unit) => L n k i) (fun n i x _ => (step n x).bind fun b => cond b (some (.rt i)) (some (.nx ()))) (fun i x _ => cond (p x) (.rt i) (.nx ())) (fun _ => ()) (fun _ _ _ => True)
  (fun n k i s => by
   rw [hL]
   congr 1
   congr 1
   funext x
   cases step n x with
   | none => rfl
   | some b => cases b <;> rfl)
  (fun i x suf s hx _ => ⟨by
   refine Ev.bind (hp x hx) ?_
   cases p x
   ·exact Ev.ret _
   ·exact Ev.ret _, fun _ _ => trivial⟩) (s0 := ()) trivial
 refine Ev.bind this ?_
 rw [← agi]
 generalize dX (τ := Unit) (fun i x _ => cond (p x) (.rt i) (.nx ())) (fun _ => ()) 0 l () = R
 cases R
 ·exact Ev.ret _
 ·exact Ev.ret _
theorem Av {α : Type} (p : α → Bool) : ∀ (l : List α) (i : Int), 0 ≤ i → decide (0 ≤ qZ p i l) = l.any p
 | [], _, _ => rfl
 | x :: xs, i, h => by
  have ih := Av p xs (i + 1) (by omega)
  by_cases hx : p x = true
  ·simp [qZ, hx, h]
  ·simp only [Bool.not_eq_true] at hx
   simpa [qZ, hx] using ih
theorem Cu (s : List UInt8) (i : Int) : jl s i = (idx s i).map fun c => (c.toNat : Int) := by
 unfold jl idx
 by_cases h : 0 ≤ i
 ·rw [if_pos h]
  by_cases h2 : i < s.length
  ·rw [if_pos ⟨h, h2⟩]
   have : i.toNat < s.length := by omega
   simp [List.getD, List.getElem?_eq_getElem this]
  ·rw [if_neg (fun hh => h2 hh.2), List.getElem?_eq_none (by omega)]; rfl
 ·rw [if_neg (fun hh => h hh.1), if_neg h]; rfl
theorem wrap64 {n : Int} (h1 : -9223372036854775808 ≤ n) (h2 : n ≤ 9223372036854775807) : IntKind.wrap .i64 n = n := (bC h1 h2).symm
end Abs
end Go.Proofs.YtiiaccpcoclklaaGreat
namespace Go.Proofs.YtiiaccpcoclklaaGreat
namespace Abs
open Go
def Ac (c : Int) : Bool := (decide (97 ≤ c) && decide (c ≤ 122)) || (decide (65 ≤ c) && decide (c ≤ 90))
def sZ (c : Int) : Bool := decide (48 ≤ c) && decide (c ≤ 57)
def qW (c : Int) : Bool := Ac c || (sZ c || c == 95)
theorem O6 (n : Nat) (c : Int) : BF n c = some (Ac c) := by
 unfold BF Ac
 cases decide (97 ≤ c) <;> cases decide (c ≤ 122) <;> cases decide (65 ≤ c) <;> rfl
theorem wZ (n : Nat) (c : Int) : wD n c = some (Ac c) := by
 unfold wD Ac
 cases decide (97 ≤ c) <;> cases decide (c ≤ 122) <;> cases decide (65 ≤ c) <;> rfl
theorem ahg (n : Nat) (c : Int) : GA n c = some (sZ c) := by
 unfold GA sZ
 cases decide (48 ≤ c) <;> rfl
theorem yT (n : Nat) (c : Int) : yO n c = some (sZ c) := by
 unfold yO sZ
 cases decide (48 ≤ c) <;> rfl
theorem adJ (n : Nat) (c : Int) : Et n c = some (qW c) := by
 unfold Et qW
 rw [O6, ahg]
 cases Ac c <;> cases sZ c <;> rfl
theorem oD (p0 : Str) (l : List Str) : Ev (fun n => mZ n p0 l) (l.any fun x => x == p0) := by
 unfold mZ
 have h := jI l (fun n k i => Lp n p0 l k i) (fun _ x => some (x == p0)) (fun x => x == p0) true (fun n k i => rfl) (fun x _ => Ev.ret _)
 refine Ev.bind h ?_
 cases l.any fun x => x == p0
 ·exact Ev.ret _
 ·exact Ev.ret _
def kws : List Str := [[116, 114, 117, 101], [102, 97, 108, 115, 101], [110, 111, 116], [111, 114], [102, 111, 114, 97, 108, 108], [101, 120, 105, 115, 116, 115], [105, 110], [110, 111, 116, 105, 110], [115, 117, 98], [109, 111, 100], [102, 117, 110], [99, 97, 114, 100], [109, 105, 110], [109, 97, 120], [100, 111, 109], [114, 97, 110], [80, 79, 87], [105, 110, 116], [98, 111, 111, 108], [115, 101, 116], [112, 97, 105, 114]]
def zf (s : Str) : Bool := kws.any fun x => x == s
theorem Jl (s : Str) : Ev (fun n => DC n s) (zf s) := by
 unfold DC
 exact Ev.bind (oD s _) (Ev.ret _)
theorem chainB (a b : Bool) : cond a (some a) (some b) = some (a || b) := by cases a <;> rfl
theorem ab3 (n : Nat) (s : Str) : CF n s = some (zf s) := by
 unfold CF
 simp only [chainB, Option.bind_some]
 have h : ∀ b : Bool, cond b (some true) (some false) = some b := fun b => by cases b <;> rfl
 rw [h]
 simp only [zf, kws, List.any_cons, List.any_nil, Bool.or_false]
 simp only [BEq.comm (a := s)]
def ident (s : Str) : Bool := match s with
 | [] => false
 | c :: cs => decide (cs.length < 16) && (Ac (c.toNat : Int) && (!(zf (c :: cs)) && cs.all fun c => qW (c.toNat : Int)))
theorem rU {α : Type} (p : α → Bool) (l : List α) : l.any (fun x => !(p x)) = !(l.all p) := by
 induction l with
 | nil => rfl
 | cons x l ih => simp [ih]
theorem uo (s : Str) : Ev (fun n => gY n s) (ident s) := by
 unfold gY
 cases s with
 | nil => exact Ev.of fun n => rfl
 | cons c cs =>
  have hloop : Ev (fun n => qE n (c :: cs) n 0) (cond ((c :: cs).any fun c => !(qW (c.toNat : Int))) (.rt false) (.nx ())) := by
   refine jI (c :: cs) (fun n k i => qE n (c :: cs) k i) (fun _ x => some (!(qW (x.toNat : Int)))) (fun x => !(qW (x.toNat : Int))) false (fun n k i => ?_) (fun x _ => Ev.ret _)
   show cond _ _ _ = _
   congr 1
   rw [Cu]
   cases idx (c :: cs) i with
   | none => rfl
   | some x =>
    simp only [Option.map_some, Option.bind_some, adJ]
  have hs0 : jl (c :: cs) 0 = some (c.toNat : Int) := by rw [Cu]; rfl
  have hne : ((c :: cs) == ([] : Str)) = false := by simp
  simp only [hne, cond_false, hs0, Option.bind_some, O6, ab3]
  by_cases hl : cs.length < 16
  ·have h1 : decide (16 < ((c :: cs).length : Int)) = false := decide_eq_false (by simp; omega)
   simp only [h1, cond_false, ident, decide_eq_true hl, Bool.true_and]
   cases hlet : Ac (c.toNat : Int) with
   | false => exact Ev.ret _
   | true =>
    cases hk : zf (c :: cs) with
    | true => exact Ev.ret _
    | false =>
     simp only [Bool.not_true, cond_false, Option.bind_some, Bool.true_and, Bool.not_false]
     refine Ev.bind hloop ?_
     rw [rU]
     simp only [List.all_cons, qW, hlet, Bool.true_or, Bool.true_and]
     cases cs.all fun c => Ac (c.toNat : Int) || (sZ (c.toNat : Int) || (c.toNat : Int) == 95)
     ·exact Ev.ret _
     ·exact Ev.ret _
  ·have h1 : decide (16 < ((c :: cs).length : Int)) = true := decide_eq_true (by simp; omega)
   simp only [h1, cond_true, Option.bind_some, ident, decide_eq_false hl, Bool.false_and]
   exact Ev.ret _
theorem nU (s : Str) : Ev (fun n => iM n s) (ident s) := by
 unfold iM
 cases s with
 | nil => exact Ev.of fun n => rfl
 | cons c cs =>
  have hloop : Ev (fun n => tQ n (c :: cs) n 1) (cond (cs.any fun c => !(qW (c.toNat : Int))) (.rt false) (.nx ())) := by
   refine aaW (c :: cs) (fun n k i => tQ n (c :: cs) k i) (fun _ x => some (!(qW (x.toNat : Int)))) (fun x => !(qW (x.toNat : Int))) false (fun n k i => ?_) (fun x _ => Ev.ret _) [c] cs rfl
   show cond _ _ _ = _
   congr 1
   rw [Cu]
   cases idx (c :: cs) i with
   | none => rfl
   | some x =>
    simp only [Option.map_some, Option.bind_some, wZ, yT, qW]
    cases Ac (x.toNat : Int) <;> cases sZ (x.toNat : Int) <;> rfl
  have hs0 : jl (c :: cs) 0 = some (c.toNat : Int) := by rw [Cu]; rfl
  have hne : decide (((c :: cs).length : Int) < 1) = false := decide_eq_false (by simp; omega)
  simp only [hne, cond_false, hs0, Option.bind_some, wZ]
  by_cases hl : cs.length < 16
  ·have h1 : decide (16 < ((c :: cs).length : Int)) = false := decide_eq_false (by simp; omega)
   simp only [h1, cond_false, ident, decide_eq_true hl, Bool.true_and]
   cases hlet : Ac (c.toNat : Int) with
   | false => exact Ev.ret _
   | true =>
    simp only [Bool.not_true, cond_false, Bool.true_and]
    refine Ev.bind (a := zf (c :: cs)) (Ev.bind (Jl _) (Ev.ret _)) ?_
    cases hk : zf (c :: cs) with
    | true => exact Ev.ret _
    | false =>
     simp only [cond_false, Bool.true_and, Bool.not_false]
     refine Ev.bind hloop ?_
     rw [rU]
     cases cs.all fun c => qW (c.toNat : Int)
     ·exact Ev.ret _
     ·exact Ev.ret _
  ·have h1 : decide (16 < ((c :: cs).length : Int)) = true := decide_eq_true (by simp; omega)
   simp only [h1, cond_true, Option.bind_some, ident, decide_eq_false hl, Bool.false_and]
   exact Ev.ret _
def F3 (s : Str) : Str := if s.getLast? = some 39 then s.dropLast else s
theorem CX {α : Type} (s : List α) (k : Nat) (h : k ≤ s.length) : iX s 0 (k : Int) = some (s.take k) := by
 unfold iX
 rw [if_pos (by omega)]
 simp
theorem agT (n : Nat) (s : Str) (hs : s.length ≤ 9223372036854775807) : strings_TrimSuffix n s [39] = some (F3 s) := by
 unfold strings_TrimSuffix mF mX
 rcases List.eq_nil_or_concat s with rfl | ⟨t, c, rfl⟩
 ·rfl
 ·have hl : ((t ++ [c]).length : Int) - (([39] : Str).length : Int) = (t.length : Int) := by simp
  have hd : decide ((([39] : Str).length : Int) ≤ ((t ++ [c]).length : Int)) = true := decide_eq_true (by simp; omega)
  simp only [List.concat_eq_append] at hs ⊢
  rw [hl, hd, wrap64 (by omega) (by simp at hs; omega)]
  have h1 : iX (t ++ [c]) (t.length : Int) ((t ++ [c]).length : Int) = some [c] := by
   unfold iX
   rw [if_pos (by simp; omega)]
   simp
  have h2 : iX (t ++ [c]) 0 (t.length : Int) = some t := by rw [CX _ _ (by simp)]; simp
  simp only [cond_true, h1, h2, Option.bind_some]
  unfold F3
  rw [List.getLast?_concat, List.dropLast_concat]
  by_cases hc : c = 39
  ·subst hc; simp
  ·have : (([c] : Str) == [39]) = false := by simp [hc]
   rw [this, if_neg (by simpa using hc)]; rfl
def named (s : Str) : Bool := ident (F3 s)
theorem NJ (s : Str) (hs : s.length ≤ 9223372036854775807) : Ev (fun n => rG n s) (named s) := by
 unfold rG
 simp only [agT _ s hs, Option.bind_some]
 exact Ev.bind (uo _) (Ev.ret _)
theorem lV {s : Str} (h : ident s = true) : ∀ c ∈ s, qW (c.toNat : Int) = true := by
 cases s with
 | nil => cases h
 | cons c cs =>
  simp only [ident, Bool.and_eq_true, decide_eq_true_eq, List.all_eq_true] at h
  intro x hx
  rcases List.mem_cons.1 hx with rfl | hx
  ·simp [qW, h.2.1]
  ·exact h.2.2.2 x hx
theorem Eo (s : Str) : Ev (fun n => A9 n s) (named s) := by
 unfold A9
 have hp : Ev (fun n => nW n s) (decide (s.getLast? = some 39) && ident s.dropLast) := by
  unfold nW
  rcases List.eq_nil_or_concat s with rfl | ⟨t, c, rfl⟩
  ·exact Ev.ret _
  ·simp only [List.concat_eq_append, List.getLast?_concat, List.dropLast_concat]
   cases t with
   | nil =>
    have h1 : decide (1 < (([] ++ [c] : Str).length : Int)) = false := rfl
    simp only [h1, cond_false, Option.bind_some]
    have : ident ([] : Str) = false := rfl
    rw [this, Bool.and_false]; exact Ev.ret _
   | cons d t =>
    have h1 : decide (1 < ((d :: t ++ [c] : Str).length : Int)) = true := decide_eq_true (by simp; omega)
    have hlen : (((d :: t ++ [c] : Str).length : Int) - 1) = ((d :: t).length : Int) := by simp
    have h2 : jl (d :: t ++ [c]) (((d :: t ++ [c] : Str).length : Int) - 1) = some (c.toNat : Int) := by
     rw [hlen, Cu, show (d :: t ++ [c] : Str) = (d :: t) ++ c :: [] from rfl, BA]; rfl
    have h3 : iX (d :: t ++ [c]) 0 (((d :: t ++ [c] : Str).length : Int) - 1) = some (d :: t) := by rw [hlen, CX _ _ (by simp)]; simp
    simp only [h1, cond_true, h2, h3, Option.bind_some]
    by_cases hc : c = 39
    ·subst hc
     simp only [show ((((39 : UInt8).toNat : Nat) : Int) == 39) = true from rfl, cond_true, decide_true, Bool.true_and]
     exact Ev.bind (Ev.bind (nU _) (Ev.ret _)) (Ev.ret _)
    ·have e : (((c.toNat : Nat) : Int) == 39) = false := by
      apply beq_false_of_ne
      intro h
      apply hc
      have : c.toNat = 39 := by omega
      exact UInt8.toNat_inj.1 this
     rw [e]
     have e2 : decide (some c = some (39 : UInt8)) = false := decide_eq_false (by simpa using hc)
     simp only [cond_false, Option.bind_some, e2, Bool.false_and]
     exact Ev.ret _
 refine Ev.bind (a := named s) ?_ (Ev.ret _)
 refine Ev.bind (nU s) ?_
 unfold named F3
 by_cases hq : s.getLast? = some 39
 ·have hi : ident s = false := by
   cases h : ident s with
   | false => rfl
   | true =>
    have := lV h 39 (List.mem_of_getLast? hq)
    cases this
  rw [hi, if_pos hq]
  rw [decide_eq_true hq, Bool.true_and] at hp
  exact Ev.bind hp (Ev.ret _)
 ·rw [if_neg hq]
  rw [decide_eq_false hq, Bool.false_and] at hp
  cases ident s
  ·exact Ev.bind hp (Ev.ret _)
  ·exact Ev.ret _
end Abs
end Go.Proofs.YtiiaccpcoclklaaGreat
namespace Go.Proofs.YtiiaccpcoclklaaGreat
namespace Abs
open Go
theorem Ty.ind {P : Ty → Prop} (h : ∀ k n ks, (∀ t ∈ ks, P t) → P (.mk k n ks)) (t : Ty) : P t := by
 match t with
 | .mk k n ks => exact h k n ks fun u _ => Ty.ind h u
termination_by SizeOf.sizeOf t
decreasing_by
 rename_i hu
 have := List.sizeOf_lt_of_mem hu
 simp only [Ty.mk.sizeOf_spec]
 omega
def fV (k : Int) (nm : Str) (len : Nat) (d : Int) : Bool :=
 !(k == 2 && decide (1 < d)) && ((((k == 1 || (k == 2 || k == 3)) && len == 0) || ((k == 4 && len == 2) || (k == 5 && len == 1))) && cond (k == 3) (ident nm) (nm == []))
mutual
def pf : Ty → Int → Int → Bool × Int
 | .mk k nm ks, d, c => cond ((decide (c + 1 ≤ 16) && decide (d ≤ 6)) && fV k nm ks.length d) (jY ks (d + 1) (c + 1)) (false, c + 1)
def jY : List Ty → Int → Int → Bool × Int
 | [], _, c => (true, c)
 | t :: ts, d, c => cond (pf t d c).1 (jY ts d (pf t d c).2) (false, (pf t d c).2)
end
mutual
theorem Cb : ∀ (t : Ty) (d c : Int), (pf t d c).1 = true → c < (pf t d c).2 ∧ (pf t d c).2 ≤ 16
 | .mk k nm ks, d, c, h => by
  simp only [pf] at h ⊢
  cases hb : ((decide (c + 1 ≤ 16) && decide (d ≤ 6)) && fV k nm ks.length d) with
  | false => rw [hb] at h; cases h
  | true =>
   rw [hb] at h
   simp only [cond_true] at h ⊢
   simp only [Bool.and_eq_true, decide_eq_true_eq] at hb
   have := aja ks (d + 1) (c + 1) h
   omega
theorem aja : ∀ (ts : List Ty) (d c : Int), (jY ts d c).1 = true → c ≤ (jY ts d c).2 ∧ (c ≤ 16 → (jY ts d c).2 ≤ 16)
 | [], _, c, _ => by simp [jY]
 | t :: ts, d, c, h => by
  simp only [jY] at h ⊢
  cases hb : (pf t d c).1 with
  | false => rw [hb] at h; cases h
  | true =>
   rw [hb] at h
   simp only [cond_true] at h ⊢
   have h1 := Cb t d c hb
   have h2 := aja ts d _ h
   exact ⟨by omega, fun _ => h2.2 h1.2⟩
end
theorem aq0 (n : Nat) (c d : Int) (h0 : 0 ≤ c) (h1 : c ≤ 16) : lG n c 16 6 d = some (decide (c + 1 ≤ 16) && decide (d ≤ 6), c + 1) := by
 unfold lG
 rw [wrap64 (by omega) (by omega)]
 cases decide (c + 1 ≤ 16) <;> rfl
def atS (t : Ty) : Prop := ∀ d c : Int, 1 ≤ d → d ≤ 7 → 0 ≤ c → c ≤ 16 → Ev (fun n => gD n c 16 6 t d (decide (1 < d))) (pf t d c)
theorem ak7 (d : Int) : ∀ (ts : List Ty) (i c : Int), 0 ≤ i → (∃ j, 0 ≤ j ∧ (jY ts d c).1 = false ∧ dX (τ := Int) (fun i x s => cond (!(pf x d s).1) (.rt (i, (pf x d s).2)) (.nx (pf x d s).2)) (fun s => s) i ts c = .rt (j, (jY ts d c).2)) ∨ ((jY ts d c).1 = true ∧ dX (ρ := Int × Int) (fun i x s => cond (!(pf x d s).1) (.rt (i, (pf x d s).2)) (.nx (pf x d s).2)) (fun s => s) i ts c = .nx (jY ts d c).2)
 | [], i, c, _ => .inr ⟨rfl, rfl⟩
 | t :: ts, i, c, hi => by
  simp only [jY, dX]
  cases hb : (pf t d c).1 with
  | false => exact .inl ⟨i, hi, rfl, rfl⟩
  | true => exact ak7 d ts (i + 1) _ (by omega)
theorem aoN (ts : List Ty) (h : ∀ t ∈ ts, atS t) (d c : Int) (hd : 1 ≤ d) (hd6 : d ≤ 6) (h0 : 0 ≤ c) (h1 : c ≤ 16) : Ev (fun n => eB n ts c 16 6 d) (!(jY ts (d + 1) c).1, (jY ts (d + 1) c).2) := by
 refine Ev.succ ?_
 show Ev (fun n => kr n _ _ _ _ ts c 16 6 d) _
 unfold kr
 have hloop := Hw ts (fun n k i s => nM n (fun p0 p1 p2 p3 p4 => iC n p0 p1 p2 p3 p4) (fun p0 p1 p2 p3 p4 => eB n p0 p1 p2 p3 p4) (fun p0 p1 p2 p3 p4 p5 => gD n p0 p1 p2 p3 p4 p5) (fun p0 p1 p2 p3 p4 => eP n p0 p1 p2 p3 p4) ts 16 6 d k (i, s))
  (fun n i x s => (eP n x s 16 6 d).bind fun x2 => cond x2.1 (some (.rt (i, x2.2))) (some (.nx x2.2))) (fun i x s => cond (!(pf x (d + 1) s).1) (.rt (i, (pf x (d + 1) s).2)) (.nx (pf x (d + 1) s).2)) (fun s => s) (fun _ _ s => 0 ≤ s ∧ s ≤ 16)
  (fun n k i s => by
   show cond _ _ _ = _
   congr 1
   congr 1
   funext x
   dsimp only
   cases eP n x s 16 6 d with
   | none => rfl
   | some b => obtain ⟨b, e⟩ := b; cases b <;> rfl)
  (fun i x suf s hx hs => ⟨by
   have hfit : Ev (fun n => eP n x s 16 6 d) (!(pf x (d + 1) s).1, (pf x (d + 1) s).2) := by
    refine Ev.succ ?_
    show Ev (fun n => kR n _ _ _ _ x s 16 6 d) _
    unfold kR
    have := h x hx (d + 1) s (by omega) (by omega) hs.1 hs.2
    rw [decide_eq_true (show 1 < d + 1 by omega)] at this
    rw [wrap64 (by omega) (by omega)]
    exact Ev.bind this (Ev.ret _)
   refine Ev.bind hfit ?_
   cases (pf x (d + 1) s).1
   ·exact Ev.ret _
   ·exact Ev.ret _, fun s' he => by
    cases hb : (pf x (d + 1) s).1 with
    | false => rw [hb] at he; cases he
    | true =>
     rw [hb] at he
     simp only [Bool.not_true, cond_false, LR.nx.injEq] at he
     have := Cb x (d + 1) s hb
     omega⟩) (s0 := c) ⟨h0, h1⟩
 rcases ak7 (d + 1) ts 0 c (Int.le_refl _) with ⟨j, hj, hf, hr⟩ | ⟨ht, hr⟩
 ·rw [hr] at hloop
  refine Ev.bind (a := (j, (jY ts (d + 1) c).2)) (Ev.succ ?_) ?_
  ·show Ev (fun n => iO n _ _ _ _ ts c 16 6 d) _
   unfold iO
   exact Ev.bind hloop (Ev.ret _)
  ·rw [hf]
   simp only [decide_eq_true hj]
   exact Ev.ret _
 ·rw [hr] at hloop
  refine Ev.bind (a := (-1, (jY ts (d + 1) c).2)) (Ev.succ ?_) ?_
  ·show Ev (fun n => iO n _ _ _ _ ts c 16 6 d) _
   unfold iO
   exact Ev.bind hloop (Ev.ret _)
  ·rw [ht]
   exact Ev.ret _
theorem aiX (len : Nat) (m : Nat) : (((len : Int) != (m : Int))) = !(len == m) := by
 rw [bne]
 congr 1
 by_cases h : len = m
 ·subst h; simp
 ·rw [beq_false_of_ne h, beq_false_of_ne (by omega)]
theorem fits : ∀ t : Ty, atS t := Ty.ind fun k nm ks ih d c hd hd7 h0 h1 => by
 refine Ev.succ ?_
 show Ev (fun n => l8 n _ _ _ _ c 16 6 (.mk k nm ks) d (decide (1 < d))) _
 unfold l8
 simp only [aq0 _ c d h0 h1, Option.bind_some, pf, Ty.kind, Ty.name, Ty.kids]
 cases hb : (decide (c + 1 ≤ 16) && decide (d ≤ 6)) with
 | false => exact Ev.ret _
 | true =>
  simp only [Bool.and_eq_true, decide_eq_true_eq] at hb
  have hk := aoN ks ih d (c + 1) hd hb.2 (by omega) hb.1
  simp only [Bool.not_true, cond_false, Bool.true_and]
  -- the end: the number of kids, the name, the kids
  have hend : ∀ m : Nat, Ev (fun n => (((cond ((ks.length : Int) != (m : Int)) (some true) (cond (k != 3) (some (!(nm == ([] : Str)))) (some false))) : Option Bool).bind fun (s2 : Bool) => (cond s2 (some (false, c + 1)) ((eB n ks (c + 1) 16 6 d).bind fun (x2 : Bool × Int) => some ((!x2.1), x2.2)))))
    (cond ((ks.length == m) && cond (k == 3) true (nm == [])) (jY ks (d + 1) (c + 1)) (false, c + 1)) := fun m => by
   rw [aiX]
   cases ks.length == m with
   | false => exact Ev.ret _
   | true =>
    simp only [Bool.not_true, cond_false, Bool.true_and, bne]
    have hkids : Ev (fun n => (eB n ks (c + 1) 16 6 d).bind fun (x2 : Bool × Int) => some ((!x2.1), x2.2)) (jY ks (d + 1) (c + 1)) := by
     refine Ev.bind hk ?_
     simp only [Bool.not_not]
     exact Ev.ret _
    cases k == 3 with
    | true => exact hkids
    | false =>
     simp only [Bool.not_false, cond_true, Option.bind_some, cond_false]
     cases nm == ([] : Str) with
     | false => exact Ev.ret _
     | true => exact hkids
  by_cases e1 : k = 1
  ·subst e1
   have := hend 0
   simpa [fV] using this
  by_cases e2 : k = 2
  ·subst e2
   cases hf : decide (1 < d) with
   | true =>
    have : fV 2 nm ks.length d = false := by simp [fV, hf]
    simp only [this, cond_false]
    exact Ev.of fun n => by simp
   | false =>
    have := hend 0
    simpa [fV, hf] using this
  by_cases e3 : k = 3
  ·subst e3
   simp only [show ((3 : Int) == 1) = false from rfl, show ((3 : Int) == 2) = false from rfl, show ((3 : Int) == 3) = true from rfl, cond_false, cond_true]
   refine Ev.bind (a := cond (ident nm) (.nx 0) (.rt (false, c + 1))) (Ev.bind (uo nm) ?_) ?_
   ·cases ident nm
    ·exact Ev.ret _
    ·exact Ev.ret _
   ·cases hi : ident nm with
    | false =>
     have : fV 3 nm ks.length d = false := by simp [fV, hi]
     rw [this]
     exact Ev.ret _
    | true =>
     have := hend 0
     simpa [fV, hi] using this
  by_cases e4 : k = 4
  ·subst e4
   have := hend 2
   simpa [fV] using this
  by_cases e5 : k = 5
  ·subst e5
   have := hend 1
   simpa [fV] using this
  ·have : fV k nm ks.length d = false := by simp [fV, e1, e2, e3, e4, e5]
   rw [this]
   refine Ev.of fun n => ?_
   have b1 := beq_false_of_ne e1
   have b2 := beq_false_of_ne e2
   have b3 := beq_false_of_ne e3
   have b4 := beq_false_of_ne e4
   have b5 := beq_false_of_ne e5
   simp only [b1, b2, b3, b4, b5, cond_false, Option.bind_some, LR.el]
def bR (t : Ty) : Bool := (pf t 1 0).1
theorem kH (t : Ty) : Ev (fun n => mJ n t) (bR t) := by
 unfold mJ
 have := fits t 1 0 (by omega) (by omega) (by omega) (by omega)
 rw [show decide ((1 : Int) < 1) = false from rfl] at this
 exact Ev.bind this (Ev.ret _)
def pt (t : Ty) (d c : Int) : Int := cond (pf t d c).1 (pf t d c).2 (-1)
def auj (t : Ty) : Prop := ∀ d c : Int, 1 ≤ d → d ≤ 7 → 0 ≤ c → c ≤ 16 → Ev (fun n => vE n t d c) (pt t d c)
theorem alm (d : Int) : ∀ (ts : List Ty) (c : Int), 0 ≤ c → lY (τ := Int) (fun x s => cond (decide (pt x d s < 0)) (.rt (-1)) (.nx (pt x d s))) (fun s => s) ts c = cond (jY ts d c).1 (.nx (jY ts d c).2) (.rt (-1))
 | [], c, _ => rfl
 | t :: ts, c, h0 => by
  simp only [jY, lY]
  by_cases hb : (pf t d c).1 = true
  ·have h1 := Cb t d c hb
   have h2 : pt t d c = (pf t d c).2 := by simp only [pt, hb, cond_true]
   have h3 : decide ((pf t d c).2 < 0) = false := decide_eq_false (by omega)
   simp only [h2, h3, hb, cond_true, cond_false]
   exact alm d ts (pf t d c).2 (by omega)
  ·have hb' : (pf t d c).1 = false := by simpa using hb
   have h2 : pt t d c = -1 := by simp only [pt, hb', cond_false]
   have h3 : decide (pt t d c < 0) = true := decide_eq_true (by omega)
   simp only [h3, hb', cond_true, cond_false]
theorem typed : ∀ t : Ty, auj t := Ty.ind fun k nm ks ih d c hd hd7 h0 h1 => by
 refine Ev.succ ?_
 show Ev (fun n => Bq n _ (.mk k nm ks) d c) _
 unfold Bq
 simp only [pt, pf, Ty.kind, Ty.name, Ty.kids]
 rw [wrap64 (by omega) (by omega)]
 by_cases hd6 : d ≤ 6
 case neg =>
  rw [decide_eq_true (show 6 < d by omega), decide_eq_false hd6]
  simp only [Bool.and_false, Bool.false_and, cond_false]
  exact Ev.ret _
 by_cases hc : c + 1 ≤ 16
 case neg =>
  rw [decide_eq_false (show ¬ 6 < d by omega), decide_eq_true (show 16 < c + 1 by omega), decide_eq_false hc]
  simp only [Bool.false_and, cond_false, cond_true]
  exact Ev.ret _
 rw [decide_eq_false (show ¬ 6 < d by omega), decide_eq_false (show ¬ 16 < c + 1 by omega), decide_eq_true hd6, decide_eq_true hc]
 simp only [cond_false, Bool.true_and]
 have hloop := Em ks (fun n k' i s => y9 n (fun p0 p1 p2 => vE n p0 p1 p2) (.mk k nm ks) d k' (s, i)) (fun n x s => (vE n x (IntKind.wrap .i64 (d + 1)) s).bind fun x2 => cond (decide (x2 < 0)) (some (.rt (-1))) (some (.nx x2)))
  (fun x s => cond (decide (pt x (d + 1) s < 0)) (.rt (-1)) (.nx (pt x (d + 1) s))) (fun s => s) (fun _ s => 0 ≤ s ∧ s ≤ 16)
  (fun n k' i s => by
   show cond _ _ _ = _
   congr 1
   show (idx ks i).bind _ = _
   congr 1
   funext x
   dsimp only
   cases vE n x (IntKind.wrap .i64 (d + 1)) s with
   | none => rfl
   | some b => simp only [Option.bind_some]; cases decide (b < 0) <;> rfl)
  (fun x suf s hx hs => ⟨by
   rw [wrap64 (by omega) (by omega)]
   refine Ev.bind (ih x hx (d + 1) s (by omega) (by omega) hs.1 hs.2) ?_
   cases decide (pt x (d + 1) s < 0)
   ·exact Ev.ret _
   ·exact Ev.ret _, fun s' he => by
    cases hb : decide (pt x (d + 1) s < 0) with
    | true => rw [hb] at he; cases he
    | false =>
     rw [hb] at he
     simp only [cond_false, LR.nx.injEq] at he
     have hneg : ¬ pt x (d + 1) s < 0 := of_decide_eq_false hb
     subst he
     unfold pt at hneg ⊢
     cases hb2 : (pf x (d + 1) s).1 with
     | false => rw [hb2] at hneg; simp at hneg
     | true => have := Cb x (d + 1) s hb2; simp only [cond_true]; omega⟩) (s0 := c + 1) ⟨by omega, hc⟩
 rw [alm _ _ _ (by omega)] at hloop
 have hkids : Ev (fun n => (y9 n (fun p0 p1 p2 => vE n p0 p1 p2) (.mk k nm ks) d n (c + 1, 0)).bind (LR.el (fun (s5 : Int) => some s5) (fun r => some r))) (cond (jY ks (d + 1) (c + 1)).1 (jY ks (d + 1) (c + 1)).2 (-1)) := by
  refine Ev.bind hloop ?_
  cases (jY ks (d + 1) (c + 1)).1
  ·exact Ev.ret _
  ·exact Ev.ret _
 have hend : ∀ m : Nat, Ev (fun n => (((cond ((ks.length : Int) != (m : Int)) (some true) (cond (k == 3) ((iM n nm).bind fun (x3 : Bool) => (cond (!x3) (some true) (cond (k != 3) (some (!(nm == ([] : Str)))) (some false)))) (cond (k != 3) (some (!(nm == ([] : Str)))) (some false)))) : Option Bool).bind fun (s3 : Bool) => (cond s3 (some (-1)) ((y9 n (fun p0 p1 p2 => vE n p0 p1 p2) (.mk k nm ks) d n (c + 1, 0)).bind (LR.el (fun (s5 : Int) => some s5) (fun r => some r))))))
   (cond ((ks.length == m) && cond (k == 3) (ident nm) (nm == [])) (cond (jY ks (d + 1) (c + 1)).1 (jY ks (d + 1) (c + 1)).2 (-1)) (-1)) := fun m => by
  rw [aiX]
  cases ks.length == m with
  | false => exact Ev.ret _
  | true =>
   simp only [Bool.not_true, cond_false, Bool.true_and, bne]
   cases k == 3 with
   | true =>
    simp only [cond_true, Bool.not_true, cond_false]
    refine Ev.bind (a := !(ident nm)) (Ev.bind (nU nm) ?_) ?_
    ·cases ident nm
     ·exact Ev.ret _
     ·exact Ev.ret _
    ·cases ident nm
     ·exact Ev.ret _
     ·exact hkids
   | false =>
    simp only [cond_false, Bool.not_false, cond_true, Option.bind_some]
    cases nm == ([] : Str) with
    | false => exact Ev.ret _
    | true => exact hkids
 have hpair : ∀ b : Bool, (cond (cond b (jY ks (d + 1) (c + 1)) (false, c + 1)).1 (cond b (jY ks (d + 1) (c + 1)) (false, c + 1)).2 (-1) : Int) = cond b (cond (jY ks (d + 1) (c + 1)).1 (jY ks (d + 1) (c + 1)).2 (-1)) (-1) := fun b => by cases b <;> rfl
 rw [hpair]
 by_cases e1 : k = 1
 ·subst e1
  have := hend 0
  simpa [fV] using this
 by_cases e2 : k = 2
 ·subst e2
  cases hf : decide (1 < d) with
  | true =>
   have : fV 2 nm ks.length d = false := by simp [fV, hf]
   rw [this]
   exact Ev.of fun n => by simp
  | false =>
   have := hend 0
   simpa [fV, hf] using this
 by_cases e3 : k = 3
 ·subst e3
  have := hend 0
  simpa [fV] using this
 by_cases e4 : k = 4
 ·subst e4
  have := hend 2
  simpa [fV] using this
 by_cases e5 : k = 5
 ·subst e5
  have := hend 1
  simpa [fV] using this
 ·have : fV k nm ks.length d = false := by simp [fV, e1, e2, e3, e4, e5]
  rw [this]
  refine Ev.of fun n => ?_
  have b1 := beq_false_of_ne e1
  have b2 := beq_false_of_ne e2
  have b3 := beq_false_of_ne e3
  have b4 := beq_false_of_ne e4
  have b5 := beq_false_of_ne e5
  simp only [b1, b2, b3, b4, b5, cond_false, Option.bind_some, LR.el]
theorem kY (t : Ty) : Ev (fun n => jk n t) (bR t) := by
 unfold jk
 refine Ev.bind (typed t 1 0 (by omega) (by omega) (by omega) (by omega)) ?_
 unfold pt bR
 cases hb : (pf t 1 0).1 with
 | false => exact Ev.ret _
 | true =>
  have := Cb t 1 0 hb
  simp only [cond_true]
  rw [decide_eq_true (by omega)]
  exact Ev.ret _
end Abs
end Go.Proofs.YtiiaccpcoclklaaGreat
namespace Go.Proofs.YtiiaccpcoclklaaGreat
namespace Abs
open Go
theorem Uk {α σ τ ρ : Type} (f : α → σ → σ) (fin : σ → τ) : ∀ (l : List α) (s : σ), lY (ρ := ρ) (fun x s => .nx (f x s)) fin l s = .nx (fin (l.foldl (fun s x => f x s) s))
 | [], _ => rfl
 | x :: xs, s => Uk f fin xs (f x s)
theorem j4 {α σ τ ρ : Type} (l : List α) (L : Nat → Nat → Int → σ → Option (LR τ ρ)) (step : Nat → α → σ → Option σ) (f : α → σ → σ) (fin : σ → τ) (I : List α → σ → Prop)
  (hL : ∀ n k i s, L n (k + 1) i s = cond (decide (i < (l.length : Int))) ((idx l i).bind fun x => (step n x s).bind fun s' => L n k (i + 1) s') (some (.nx (fin s))))
  (hI : ∀ x suf s, x ∈ l → I (x :: suf) s → Ev (fun n => step n x s) (f x s) ∧ I suf (f x s)) {s0 : σ} (h0 : I l s0) : Ev (fun n => L n n 0 s0) (.nx (fin (l.foldl (fun s x => f x s) s0))) := by
 rw [← Uk f fin]
 refine Em l L (fun n x s => (step n x s).bind fun s' => some (.nx s')) (fun x s => .nx (f x s)) fin I (fun n k i s => ?_) (fun x suf s hx hs => ?_) h0
 ·rw [hL]
  congr 1
  congr 1
  funext x
  cases step n x s <;> rfl
 ·obtain ⟨h1, h2⟩ := hI x suf s hx hs
  exact ⟨Ev.bind h1 (Ev.ret _), fun s' h => by cases h; exact h2⟩
theorem MB {α ρ : Type} (l : List α) (L : Nat → Nat → Int → Option (LR Unit ρ)) (step : Nat → α → Option (LR Unit ρ)) (p : α → Bool) (r : ρ)
  (hL : ∀ n k i, L n (k + 1) i = cond (decide (i < (l.length : Int))) ((idx l i).bind fun x => (step n x).bind (LR.el (fun _ => L n k (i + 1)) (fun r => some (.rt r)))) (some (.nx ())))
  (hp : ∀ x ∈ l, Ev (fun n => step n x) (cond (p x) (.rt r) (.nx ()))) : Ev (fun n => L n n 0) (cond (l.any p) (.rt r) (.nx ())) := by
 have := Em l (fun n k i (_ : Unit) => L n k i) (fun n x _ => step n x) (fun x _ => cond (p x) (.rt r) (.nx ())) (fun _ => ()) (fun _ _ => True)
  (fun n k i s => by rw [hL]) (fun x suf s hx _ => ⟨hp x hx, fun _ _ => trivial⟩) (s0 := ()) trivial
 rw [U4] at this
 exact this
theorem fD {α : Type} {b : Nat} {l ys : List α} (h : l.length + ys.length ≤ 1000000) (hb : b ≤ 1000) : app b l ys = some (l ++ ys) := by
 unfold app
 have := Nat.mul_le_mul h hb
 rw [if_pos ⟨by omega, by omega⟩]
theorem vY {α : Type} : ∀ (l s : List α), l.foldl (fun s x => s ++ [x]) s = s ++ l
 | [], s => by simp
 | x :: l, s => by simp [vY l]
theorem FH {α : Type} (k : Str) : gq ([] : List (Str × α)) k = none := rfl
theorem lU {α : Type} (p : Str × α) (m : List (Str × α)) (k : Str) : gq (p :: m) k = if p.1 == k then some p.2 else gq m k := by
 unfold gq
 simp only [List.find?_cons]
 cases p.1 == k <;> rfl
theorem Uc {α : Type} (m : List (Str × α)) (k : Str) (v : α) (k' : Str) : gq (mR m k v) k' = if k == k' then some v else gq m k' := by
 induction m with
 | nil => rw [mR, lU]
 | cons p m ih =>
  simp only [mR]
  by_cases h : (p.1 == k) = true
  ·have e : p.1 = k := by simpa using h
   rw [if_pos h, lU, lU, e]
   by_cases hk : (k == k') = true
   ·rw [if_pos hk, if_pos hk]
   ·rw [if_neg hk, if_neg hk, if_neg hk]
  ·rw [if_neg h, lU, ih, lU]
   by_cases hp : (p.1 == k') = true
   ·rw [if_pos hp, if_pos hp, if_neg]
    intro h2
    apply h
    have e1 : p.1 = k' := by simpa using hp
    have e2 : k = k' := by simpa using h2
    simp [e1, e2]
   ·rw [if_neg hp, if_neg hp]
theorem E5 {α : Type} (m : List (Str × α)) (k : Str) (v : α) : (mR m k v).length ≤ m.length + 1 := by
 induction m with
 | nil => simp [mR]
 | cons p m ih =>
  simp only [mR]
  split
  ·simp
  ·simp only [List.length_cons]; omega
theorem Kg {α : Type} {m : List (Str × α)} (h : m.length ≤ 1000000) (k : Str) (v : α) : CJ m k v = some (mR m k v) := by
 unfold CJ
 rw [if_pos (by omega)]
theorem mem_keys {α : Type} (m : List (Str × α)) (k : Str) : k ∈ m.map (·.1) ↔ ∃ v, gq m k = some v := by
 induction m with
 | nil => simp [FH]
 | cons p m ih =>
  rw [lU]
  simp only [List.map_cons, List.mem_cons, ih]
  by_cases h : (p.1 == k) = true
  ·rw [if_pos h]
   have e : p.1 = k := by simpa using h
   exact ⟨fun _ => ⟨_, rfl⟩, fun _ => .inl e.symm⟩
  ·rw [if_neg h]
   have e : k ≠ p.1 := fun e => h (by simp [e])
   simp [e]
def gU {α : Type} (l : List (Str × α)) (m : List (Str × α)) : List (Str × α) := l.foldl (fun m p => mR m p.1 p.2) m
theorem JJ {α : Type} (l m : List (Str × α)) : (gU l m).length ≤ m.length + l.length := by
 induction l generalizing m with
 | nil => simp [gU]
 | cons p l ih =>
  have h1 := ih (mR m p.1 p.2)
  have h2 := E5 m p.1 p.2
  simp only [gU, List.foldl_cons, List.length_cons] at h1 ⊢
  omega
theorem Ql {α : Type} (l l' m : List (Str × α)) : gU (l ++ l') m = gU l' (gU l m) := by simp [gU]
theorem aaL {α : Type} (l m : List (Str × α)) (k : Str) : k ∈ (gU l m).map (·.1) ↔ k ∈ m.map (·.1) ∨ k ∈ l.map (·.1) := by
 induction l generalizing m with
 | nil => simp [gU]
 | cons p l ih =>
  have h1 := ih (mR m p.1 p.2)
  have h2 : k ∈ (mR m p.1 p.2).map (·.1) ↔ k ∈ m.map (·.1) ∨ k = p.1 := by
   rw [mem_keys, mem_keys, Uc]
   by_cases h : (p.1 == k) = true
   ·rw [if_pos h]
    have e : p.1 = k := by simpa using h
    exact ⟨fun _ => .inr e.symm, fun _ => ⟨_, rfl⟩⟩
   ·rw [if_neg h]
    have e : k ≠ p.1 := fun e => h (by simp [e])
    simp [e]
  rw [h2] at h1
  simp only [gU, List.foldl_cons, List.map_cons, List.mem_cons] at h1 ⊢
  rw [h1, or_assoc]
theorem KE {α : Type} (l m : List (Str × α)) (k : Str) (hn : (l.map (·.1)).Nodup) : gq (gU l m) k = (match gq l k with | some v => some v | none => gq m k) := by
 induction l generalizing m with
 | nil => rfl
 | cons p l ih =>
  rw [List.map_cons, List.nodup_cons] at hn
  have h1 := ih (mR m p.1 p.2) hn.2
  simp only [gU, List.foldl_cons] at h1 ⊢
  rw [h1, Uc, lU]
  by_cases h : (p.1 == k) = true
  ·rw [if_pos h, if_pos h]
   have e : p.1 = k := by simpa using h
   have h3 : gq l k = none := by
    cases hm : gq l k with
    | none => rfl
    | some v => exact absurd ((mem_keys l k).2 ⟨v, hm⟩) (e ▸ hn.1)
   rw [h3]
  ·rw [if_neg h, if_neg h]
theorem FK {α : Type} (l : List (Str × α)) (k : Str) (v : α) (hn : (l.map (·.1)).Nodup) : gq l k = some v ↔ (k, v) ∈ l := by
 induction l with
 | nil => simp [FH]
 | cons p l ih =>
  rw [List.map_cons, List.nodup_cons] at hn
  rw [lU, List.mem_cons]
  by_cases h : (p.1 == k) = true
  ·rw [if_pos h]
   have e : p.1 = k := by simpa using h
   constructor
   ·intro h2
    cases h2
    exact .inl (by rw [← e])
   ·rintro (h2 | h2)
    ·rw [← h2]
    ·exact absurd (List.mem_map.2 ⟨_, h2, rfl⟩) (e ▸ hn.1)
  ·rw [if_neg h, ih hn.2]
   constructor
   ·exact .inr
   ·rintro (h2 | h2)
    ·exact absurd (by rw [← h2]; simp) h
    ·exact h2
theorem Q5 {α : Type} {l l' : List (Str × α)} (hp : l.Perm l') (hn : (l.map (·.1)).Nodup) (k : Str) : gq l k = gq l' k := by
 have hn' : (l'.map (·.1)).Nodup := (hp.map _).nodup_iff.1 hn
 cases h : gq l k with
 | some v =>
  rw [FK _ _ _ hn] at h
  exact ((FK _ _ _ hn').2 (hp.mem_iff.1 h)).symm
 | none =>
  cases h' : gq l' k with
  | none => rfl
  | some v =>
   rw [FK _ _ _ hn'] at h'
   rw [(FK _ _ _ hn).2 (hp.mem_iff.2 h')] at h
   cases h
mutual
def jA (q : Int) : Ty → Bool
 | .mk k _ ks => k == q || J4 q ks
def J4 (q : Int) : List Ty → Bool
 | [] => false
 | t :: ts => jA q t || J4 q ts
end
theorem MG (q : Int) : ∀ ts, J4 q ts = ts.any (jA q)
 | [] => rfl
 | t :: ts => by simp [J4, MG q ts]
theorem Ip (q : Int) : ∀ t : Ty, Ev (fun n => jP n t q) (jA q t) := Ty.ind fun k nm ks ih => by
 refine Ev.succ ?_
 show Ev (fun n => qX n _ _ _ _ (.mk k nm ks) q) _
 unfold qX
 simp only [Ty.kind, Ty.kids, jA, MG]
 have hk : Ev (fun n => fQ n ks q) (ks.any (jA q)) := by
  refine Ev.succ ?_
  show Ev (fun n => jG n _ _ _ _ ks q) _
  unfold jG
  refine Ev.bind (a := qZ (jA q) 0 ks) (Ev.succ ?_) ?_
  ·show Ev (fun n => kM n _ _ _ _ ks q) _
   unfold kM
   refine xu ks (fun n k i => mg n _ _ _ (fun p0 p1 => jF n p0 p1) ks q k i) (fun n x => jF n x q) (jA q) (fun n k i => rfl) (fun x hx => ?_)
   refine Ev.succ ?_
   show Ev (fun n => pF n _ _ _ _ x q) _
   unfold pF
   exact Ev.bind (ih x hx) (Ev.ret _)
  ·rw [Av _ _ _ (Int.le_refl _)]; exact Ev.ret _
 cases hq : (k == q)
 ·exact Ev.bind (Ev.bind hk (Ev.ret _)) (Ev.ret _)
 ·exact Ev.bind (Ev.ret _) (Ev.ret _)
mutual
def fZ : Ty → List Str
 | .mk k nm ks => cond (k == 3) [nm] (pG ks)
def pG : List Ty → List Str
 | [] => []
 | t :: ts => fZ t ++ pG ts
end
mutual
def FY : Ty → Bool
 | .mk k _ ks => (decide (ks.length ≤ 2) && (k != 3 || ks.length == 0)) && NK ks
def NK : List Ty → Bool
 | [] => true
 | t :: ts => FY t && NK ts
end
theorem Kv : ∀ {ts : List Ty}, NK ts = true → ∀ t ∈ ts, FY t = true
 | [], _, t, h => by cases h
 | u :: ts, h, t, ht => by
  simp only [NK, Bool.and_eq_true] at h
  rcases List.mem_cons.1 ht with rfl | ht
  ·exact h.1
  ·exact Kv h.2 t ht
theorem as3 {k : Int} {nm : Str} {len : Nat} {d : Int} (h : fV k nm len d = true) : len ≤ 2 ∧ (k = 3 → len = 0) := by
 unfold fV at h
 simp only [Bool.and_eq_true, Bool.or_eq_true, beq_iff_eq] at h
 obtain ⟨_, h, _⟩ := h
 rcases h with ⟨h1, h2⟩ | ⟨h1, h2⟩ | ⟨h1, h2⟩ <;> omega
mutual
theorem ars : ∀ (t : Ty) (d c : Int), (pf t d c).1 = true → FY t = true ∧ ((fZ t).length : Int) ≤ (pf t d c).2 - c
 | .mk k nm ks, d, c, h => by
  simp only [pf] at h ⊢
  cases hb : ((decide (c + 1 ≤ 16) && decide (d ≤ 6)) && fV k nm ks.length d) with
  | false => rw [hb] at h; cases h
  | true =>
   rw [hb] at h
   simp only [cond_true] at h ⊢
   simp only [Bool.and_eq_true] at hb
   have hh := as3 hb.2
   have h1 := ao4 ks (d + 1) (c + 1) h
   have h2 := aja ks (d + 1) (c + 1) h
   constructor
   ·simp only [FY, h1.1, Bool.and_true, Bool.and_eq_true, decide_eq_true_eq, Bool.or_eq_true, bne_iff_ne, beq_iff_eq]
    refine ⟨hh.1, ?_⟩
    by_cases e : k = 3
    ·exact .inr (hh.2 e)
    ·exact .inl e
   ·simp only [fZ]
    cases k == 3 with
    | true => simp only [cond_true, List.length_singleton]; omega
    | false => simp only [cond_false]; omega
theorem ao4 : ∀ (ts : List Ty) (d c : Int), (jY ts d c).1 = true → NK ts = true ∧ ((pG ts).length : Int) ≤ (jY ts d c).2 - c
 | [], _, c, _ => by simp [jY, NK, pG]
 | t :: ts, d, c, h => by
  simp only [jY] at h ⊢
  cases hb : (pf t d c).1 with
  | false => rw [hb] at h; cases h
  | true =>
   rw [hb] at h
   simp only [cond_true] at h ⊢
   have h1 := ars t d c hb
   have h2 := ao4 ts d _ h
   simp only [NK, h1.1, h2.1, Bool.and_true, pG, List.length_append]
   refine ⟨trivial, ?_⟩
   omega
end
theorem A8 {t : Ty} (h : bR t = true) : FY t = true ∧ (fZ t).length ≤ 16 := by
 have h1 := ars t 1 0 h
 have h2 := Cb t 1 0 h
 exact ⟨h1.1, by omega⟩
theorem amf : ∀ t : Ty, FY t = true → ∀ m : List (Str × Bool), m.length + (fZ t).length ≤ 1000 → Ev (fun n => mH n t m) (gU ((fZ t).map fun s => (s, true)) m) := Ty.ind fun k nm ks ih hok m hlen => by
 refine Ev.succ ?_
 show Ev (fun n => sU n _ (.mk k nm ks) m) _
 unfold sU
 simp only [Ty.kind, Ty.name, fZ] at hlen ⊢
 simp only [FY, Bool.and_eq_true, decide_eq_true_eq, Bool.or_eq_true, beq_iff_eq, bne_iff_ne] at hok
 have hloop : ∀ (m : List (Str × Bool)), m.length + (pG ks).length ≤ 1000 → Ev (fun n => rV n (fun p0 p1 => mH n p0 p1) (.mk k nm ks) n (0, m)) (.nx (gU ((pG ks).map fun s => (s, true)) m)) := fun m hm => by
  have h := j4 ks (fun n k' i s => rV n (fun p0 p1 => mH n p0 p1) (.mk k nm ks) k' (i, s)) (fun n x s => mH n x s) (fun x s => gU ((fZ x).map fun s => (s, true)) s) (fun s => s) (fun suf s => s.length + (pG suf).length ≤ 1000)
   (fun n k' i s => rfl)
   (fun x suf s hx hs => by
    simp only [pG, List.length_append] at hs
    refine ⟨ih x hx (Kv hok.2 x hx) s (by omega), ?_⟩
    have := JJ ((fZ x).map fun s => (s, true)) s
    simp only [List.length_map] at this
    omega) (s0 := m) hm
  have hf : ∀ (ts : List Ty) (s : List (Str × Bool)), ts.foldl (fun s x => gU ((fZ x).map fun s => (s, true)) s) s = gU ((pG ts).map fun s => (s, true)) s := by
   intro ts
   induction ts with
   | nil => intro s; rfl
   | cons t ts iht => intro s; simp only [List.foldl_cons, pG, List.map_append, Ql, iht]
  rw [hf] at h
  exact h
 cases hq : (k == 3) with
 | true =>
  have hk : k = 3 := by simpa using hq
  have hks : ks = [] := by
   rcases hok.1.2 with h | h
   ·exact absurd hk h
   ·exact List.length_eq_zero_iff.1 h
  rw [hq] at hlen
  simp only [cond_true, List.length_singleton] at hlen ⊢
  rw [Kg (by omega)]
  have hl := E5 m nm true
  have := hloop (mR m nm true) (by rw [hks]; simp only [pG, List.length_nil]; omega)
  rw [hks] at this ⊢
  simp only [Option.bind_some]
  exact Ev.bind this (Ev.ret _)
 | false =>
  rw [hq] at hlen
  simp only [cond_false, Option.bind_some] at hlen ⊢
  exact Ev.bind (hloop m hlen) (Ev.ret _)
theorem Db {t : Ty} (h : bR t = true) : Ev (fun n => mV n t) (((gU ((fZ t).map fun s => (s, true)) []).map (·.1)).mergeSort Gt) := by
 unfold mV
 refine Ev.bind (kH t) ?_
 rw [h]
 obtain ⟨h1, h2⟩ := A8 h
 refine Ev.bind (amf t h1 [] (by simp; omega)) ?_
 have := JJ ((fZ t).map fun s => (s, true)) []
 simp only [List.length_map, List.length_nil] at this
 unfold vZ
 rw [if_pos (by omega)]
 exact Ev.ret _
theorem KC (t : Ty) (s : Str) : s ∈ ((gU ((fZ t).map fun s => (s, true)) []).map (·.1)).mergeSort Gt ↔ s ∈ fZ t := by
 rw [List.mem_mergeSort, aaL]
 simp
theorem BJ : ∀ t : Ty, FY t = true → Ev (fun n => gX n t) t := Ty.ind fun k nm ks ih hok => by
 refine Ev.succ ?_
 show Ev (fun n => rH n _ (.mk k nm ks)) _
 unfold rH
 simp only [Ty.kind, Ty.name]
 simp only [FY, Bool.and_eq_true, decide_eq_true_eq] at hok
 have h := j4 ks (fun n k' i s => uD n (fun p0 => gX n p0) (.mk k nm ks) k' (i, s)) (fun n x s => (gX n x).bind fun x2 => app 48 s [x2]) (fun x s => s ++ [x]) (fun s => s) (fun suf s => s.length + suf.length ≤ 2)
  (fun n k' i s => by
   show cond _ _ _ = _
   congr 1
   show (idx ks i).bind _ = _
   congr 1
   funext x
   simp only [Option.bind_assoc])
  (fun x suf s hx hs => by
   simp only [List.length_cons] at hs
   refine ⟨Ev.bind (ih x hx (Kv hok.2 x hx)) ?_, ?_⟩
   ·rw [fD (by simp only [List.length_singleton]; omega) (by omega)]; exact Ev.ret _
   ·simp only [List.length_append, List.length_singleton]; omega) (s0 := ([] : List Ty)) (by simpa using hok.1.1)
 rw [vY] at h
 exact Ev.bind h (Ev.ret _)
theorem Cr {α : Type} [BEq α] [ReflBEq α] (a : α) : (a != a) = false := by simp [bne]
theorem IV {α : Type} (l : List α) : (l.any fun _ => false) = false := by induction l <;> simp_all
theorem kV : ∀ t : Ty, Ev (fun n => bL n t t) true := Ty.ind fun k nm ks ih => by
 refine Ev.succ ?_
 show Ev (fun n => qd n _ (.mk k nm ks) (.mk k nm ks)) _
 unfold qd
 simp only [Cr, beq_self_eq_true, Bool.not_true, cond_false, Option.bind_some]
 have h := jI ks (fun n k' i => wO n (fun p0 p1 => bL n p0 p1) (.mk k nm ks) (.mk k nm ks) k' i) (fun n x => (bL n x x).bind fun b => some (!b)) (fun _ => false) false
  (fun n k' i => by
   show cond _ _ _ = _
   congr 1
   show (idx ks i).bind _ = _
   cases hx : idx ks i with
   | none => rfl
   | some x =>
    show ((idx ks i).bind _) = _
    rw [hx]
    simp only [Option.bind_some, Option.bind_assoc])
  (fun x hx => Ev.bind (ih x hx) (Ev.ret _))
 rw [IV] at h
 exact Ev.bind h (Ev.ret _)
end Abs
end Go.Proofs.YtiiaccpcoclklaaGreat
namespace Go.Proofs.YtiiaccpcoclklaaGreat
namespace Abs
open Go
def dU (env : Env) (s : Str) : Bool := env.carriers.any fun c => c.name == s
def HY (c : Carrier) : Bool := ident c.name && (!(decide (8 < (c.elems.length : Int))) && c.elems.all ident)
def vX (env : Env) (d : Decl) : Bool := named d.name && ((bR d.ty && !(jA 2 d.ty)) && (fZ d.ty).all (dU env))
def zK (env : Env) : List Str := (env.carriers.flatMap fun c => c.name :: c.elems) ++ env.names.map (·.name)
def names2 (env : Env) : List Str := env.carriers.map (·.name) ++ (env.carriers.flatMap (·.elems) ++ env.names.map (·.name))
def nI : List Str → List Str → Bool
 | _, [] => true
 | pre, x :: xs => !(pre.any (· == x)) && nI (pre ++ [x]) xs
theorem agp : ∀ (l pre : List Str), nI pre l = true ↔ l.Nodup ∧ ∀ x ∈ l, x ∉ pre
 | [], pre => by simp [nI]
 | x :: l, pre => by
  simp only [nI, Bool.and_eq_true, agp l, Bool.not_eq_true', List.nodup_cons, List.mem_cons, List.any_eq_false, beq_iff_eq, List.mem_append, List.not_mem_nil, or_false]
  constructor
  ·rintro ⟨h1, h2, h3⟩
   refine ⟨⟨fun hx => (h3 x hx) (.inr rfl), h2⟩, ?_⟩
   rintro y (rfl | hy)
   ·exact fun hp => h1 _ hp rfl
   ·exact fun hp => h3 y hy (.inl hp)
  ·rintro ⟨⟨h1, h2⟩, h3⟩
   refine ⟨fun y hy e => h3 x (.inl rfl) (e ▸ hy), h2, fun y hy hp => ?_⟩
   rcases hp with hp | rfl
   ·exact h3 y (.inr hy) hp
   ·exact h1 hy
theorem Qa (l : List Str) : nI [] l = true ↔ l.Nodup := by rw [agp]; simp
theorem anR (cs : List Carrier) : (cs.flatMap fun c => c.name :: c.elems).Perm (cs.map (·.name) ++ cs.flatMap (·.elems)) := by
 induction cs with
 | nil => simp
 | cons c cs ih =>
  simp only [List.flatMap_cons, List.map_cons, List.cons_append]
  refine List.Perm.cons _ ?_
  refine (List.Perm.append_left _ ih).trans ?_
  rw [← List.append_assoc, ← List.append_assoc]
  exact List.Perm.append_right _ List.perm_append_comm
theorem AX (env : Env) : (zK env).Perm (names2 env) := by
 unfold zK names2
 rw [← List.append_assoc]
 exact List.Perm.append_right _ (anR _)
theorem ao1 (env : Env) : nI [] (zK env) = nI [] (names2 env) := by
 have h : (nI [] (zK env) = true) ↔ (nI [] (names2 env) = true) := by rw [Qa, Qa]; exact (AX env).nodup_iff
 cases h1 : nI [] (zK env) <;> cases h2 : nI [] (names2 env) <;> simp_all
def bJ (env : Env) : Bool := !(decide (8 < (env.carriers.length : Int)) || decide (64 < (env.names.length : Int))) && (env.carriers.all HY && (env.names.all (vX env) && nI [] (names2 env)))
theorem ag6 (env : Env) (s : Str) : Ev (fun n => vN n env s) (dU env s) := by
 unfold vN oO qV
 refine Ev.bind (a := dU env s) ?_ (Ev.ret _)
 refine Ev.bind (xu env.carriers (fun n k i => lD n env.carriers s k i) (fun _ x => some (x.name == s)) (fun c => c.name == s) (fun n k i => rfl) (fun x _ => Ev.ret _)) ?_
 rw [Av _ _ _ (Int.le_refl _)]
 exact Ev.ret _
theorem Ny (env : Env) {t : Ty} (h : bR t = true) : Ev (fun n => oN n env t) ((fZ t).all (dU env)) := by
 unfold oN pY sK
 refine Ev.bind (Db h) ?_
 generalize hl : ((gU ((fZ t).map fun s => (s, true)) []).map (·.1)).mergeSort Gt = l
 have hm : ∀ s, s ∈ l ↔ s ∈ fZ t := fun s => by rw [← hl]; exact KC t s
 have hf := xu l (fun n k i => mh n l env.carriers env.names k i) (fun n x => vI n x env.carriers env.names) (fun s => !(dU env s)) (fun n k i => rfl) (fun x _ => by
  unfold vI
  exact Ev.bind (ag6 env x) (Ev.ret _))
 refine Ev.bind (a := l.any fun s => !(dU env s)) (Ev.bind hf ?_) ?_
 ·rw [Av _ _ _ (Int.le_refl _)]
  exact Ev.ret _
 ·rw [rU, Bool.not_not]
  have : l.all (dU env) = (fZ t).all (dU env) := by
   have h : (l.all (dU env) = true) ↔ ((fZ t).all (dU env) = true) := by simp only [List.all_eq_true, hm]
   cases h1 : l.all (dU env) <;> cases h2 : (fZ t).all (dU env) <;> simp_all
  rw [this]
  exact Ev.ret _
theorem Ni (env : Env) (h : (zK env).length ≤ 1000000) : Ev (fun n => rz n env) (zK env) := by
 unfold rz
 simp only [zK, List.length_append, List.length_map] at h
 have h1 := j4 env.carriers (fun n k i s => uJ n env k (s, i)) (fun n x s => (app 16 s [x.name]).bind fun x4 => app 16 x4 x.elems) (fun x s => s ++ (x.name :: x.elems)) (fun s => s) (fun suf s => s.length + (suf.flatMap fun c => c.name :: c.elems).length ≤ 1000000)
  (fun n k i s => by
   show cond _ _ _ = _
   congr 1
   show (idx env.carriers i).bind _ = _
   congr 1
   funext x
   simp only [Option.bind_assoc])
  (fun x suf s hx hs => by
   simp only [List.flatMap_cons, List.length_append, List.length_cons] at hs
   refine ⟨?_, ?_⟩
   ·rw [fD (by simp only [List.length_singleton]; omega) (by omega), Option.bind_some, fD (by simp only [List.length_append, List.length_singleton]; omega) (by omega)]
    rw [List.append_assoc]
    exact Ev.ret _
   ·simp only [List.length_append, List.length_cons]; omega) (s0 := ([] : List Str)) (by simp only [List.length_nil]; omega)
 have hf1 : ∀ (cs : List Carrier) (s : List Str), cs.foldl (fun s x => s ++ (x.name :: x.elems)) s = s ++ cs.flatMap fun c => c.name :: c.elems := by
  intro cs
  induction cs with
  | nil => intro s; simp
  | cons c cs ih => intro s; rw [List.foldl_cons, ih]; simp
 rw [hf1, List.nil_append] at h1
 have h2 := j4 env.names (fun n k i s => uq n env k (s, i)) (fun n x s => app 16 s [x.name]) (fun x s => s ++ [x.name]) (fun s => s) (fun suf s => s.length + suf.length ≤ 1000000)
  (fun n k i s => rfl)
  (fun x suf s hx hs => by
   simp only [List.length_cons] at hs
   refine ⟨?_, ?_⟩
   ·rw [fD (by simp only [List.length_singleton]; omega) (by omega)]
    exact Ev.ret _
   ·simp only [List.length_append, List.length_singleton]; omega) (s0 := env.carriers.flatMap fun c => c.name :: c.elems) (by omega)
 have hf2 : ∀ (cs : List Decl) (s : List Str), cs.foldl (fun s x => s ++ [x.name]) s = s ++ cs.map (·.name) := by
  intro cs
  induction cs with
  | nil => intro s; simp
  | cons c cs ih => intro s; rw [List.foldl_cons, ih]; simp
 rw [hf2] at h2
 exact Ev.bind h1 (Ev.bind h2 (Ev.ret _))
theorem Ya (l : List Str) (hl : l.length ≤ 1000000) : Ev (fun n => uX n l) (nI [] l) := by
 unfold uX
 have h := Em l (fun n k i s => uP n l k (i, s)) (fun n x s => (mel (gq s x) (some false) (fun x3 => some x3) : Option Bool).bind fun s3 => cond s3 (some (.rt false)) ((CJ s x true).bind fun x2 => some (.nx x2))) (fun x s => cond ((gq s x).getD false) (.rt false) (.nx (mR s x true))) (fun _ => ())
  (fun suf s => s.length + suf.length ≤ 1000000)
  (fun n k i s => by
   show cond _ _ _ = _
   congr 1
   show (idx l i).bind _ = _
   congr 1
   funext x
   cases gq s x with
   | none => simp only [mel, Option.bind_some, cond_false, Option.bind_assoc]
   | some b => cases b <;> simp only [mel, Option.bind_some, cond_false, cond_true, Option.bind_assoc])
  (fun x suf s hx hs => by
   simp only [List.length_cons] at hs
   refine ⟨?_, fun s' he => ?_⟩
   ·rw [Kg (by omega)]
    cases gq s x with
    | none => exact Ev.ret _
    | some b => cases b <;> exact Ev.ret _
   ·cases hb : (gq s x).getD false with
    | true => rw [hb] at he; cases he
    | false =>
     rw [hb] at he
     cases he
     have := E5 s x true
     omega) (s0 := ([] : List (Str × Bool))) (by simpa using hl)
 have key : ∀ (suf pre : List Str) (s : List (Str × Bool)), (∀ x, gq s x = if pre.any (· == x) then some true else none) → lY (τ := Unit) (fun x s => cond ((gq s x).getD false) (.rt false) (.nx (mR s x true))) (fun _ => ()) suf s = cond (nI pre suf) (.nx ()) (.rt false) := by
  intro suf
  induction suf with
  | nil => intro pre s _; rfl
  | cons x suf ih =>
   intro pre s hs
   simp only [lY, nI]
   rw [hs x]
   cases hb : pre.any (· == x) with
   | true => rfl
   | false =>
    simp only [Bool.false_eq_true, if_false, Option.getD_none, cond_false, Bool.not_false, Bool.true_and]
    refine ih (pre ++ [x]) _ (fun y => ?_)
    rw [Uc, hs y]
    simp only [List.any_append, List.any_cons, List.any_nil, Bool.or_false]
    cases hy : (x == y) with
    | true => simp
    | false => simp
 rw [key l [] [] (fun x => rfl)] at h
 refine Ev.bind h ?_
 cases nI [] l
 ·exact Ev.ret _
 ·exact Ev.ret _
theorem BK {env : Env} (h1 : ¬ 8 < (env.carriers.length : Int)) (h2 : ¬ 64 < (env.names.length : Int)) (h3 : env.carriers.all HY = true) : (names2 env).length ≤ 1000 := by
 have key : ∀ cs : List Carrier, cs.all HY = true → (cs.flatMap (·.elems)).length ≤ 8 * cs.length := by
  intro cs
  induction cs with
  | nil => intro _; simp
  | cons c cs ih =>
   intro h
   simp only [List.all_cons, Bool.and_eq_true, HY, Bool.not_eq_true', decide_eq_false_iff_not] at h
   have := ih (by simpa only [List.all_eq_true, HY] using h.2)
   simp only [List.flatMap_cons, List.length_append, List.length_cons]
   omega
 have := key _ h3
 simp only [names2, List.length_append, List.length_map]
 omega
theorem lC (env : Env) (hs : ∀ d ∈ env.names, d.name.length ≤ 9223372036854775807) : Ev (fun n => jh n env) (bJ env) := by
 unfold jh
 by_cases h1 : 8 < (env.carriers.length : Int)
 ·have : bJ env = false := by simp only [bJ, decide_eq_true h1, Bool.true_or, Bool.not_true, Bool.false_and]
  rw [this, decide_eq_true h1]
  exact Ev.ret _
 by_cases h2 : 64 < (env.names.length : Int)
 ·have : bJ env = false := by simp only [bJ, decide_eq_true h2, Bool.or_true, Bool.not_true, Bool.false_and]
  rw [this, decide_eq_true h2, decide_eq_false h1]
  exact Ev.ret _
 simp only [bJ, decide_eq_false h1, decide_eq_false h2, Bool.or_false, Bool.not_false, Bool.true_and, cond_false, Option.bind_some]
 have hcar := MB env.carriers (fun n k i => uG n env k i) (fun n x => ((gY n x.name).bind fun x10 => cond (!x10) (some true) (some (decide (8 < (x.elems.length : Int))))).bind fun s7 => cond s7 (some (.rt false)) ((nY n x n 0).bind (LR.el (fun _ => some (.nx ())) (fun r => some (.rt r))))) (fun c => !(HY c)) false
  (fun n k i => by
   show cond _ _ _ = _
   congr 1
   congr 1
   funext x
   cases ((gY n x.name).bind fun x10 => cond (!x10) (some true) (some (decide (8 < (x.elems.length : Int))))) with
   | none => rfl
   | some b =>
    cases b with
    | true => rfl
    | false =>
     simp only [Option.bind_some, cond_false]
     cases nY n x n 0 with
     | none => rfl
     | some r => cases r <;> rfl)
  (fun c hc => by
   refine Ev.bind (a := !(ident c.name) || decide (8 < (c.elems.length : Int))) (Ev.bind (uo c.name) ?_) ?_
   ·cases ident c.name
    ·exact Ev.ret _
    ·exact Ev.ret _
   ·unfold HY
    cases ident c.name with
    | false => exact Ev.ret _
    | true =>
     cases decide (8 < (c.elems.length : Int)) with
     | true => exact Ev.ret _
     | false =>
      simp only [Bool.not_true, Bool.false_or, cond_false, Bool.true_and, Bool.not_false]
      have h := jI c.elems (fun n k i => nY n c k i) (fun n x => (gY n x).bind fun x9 => some (!x9)) (fun s => !(ident s)) false
       (fun n k i => by
        show cond _ _ _ = _
        congr 1
        congr 1
        funext x
        simp only [Option.bind_assoc, Option.bind_some])
       (fun x _ => Ev.bind (uo x) (Ev.ret _))
      rw [rU] at h
      refine Ev.bind h ?_
      cases c.elems.all ident
      ·exact Ev.ret _
      ·exact Ev.ret _)
 rw [rU] at hcar
 refine Ev.bind hcar ?_
 cases hc : env.carriers.all HY with
 | false => exact Ev.ret _
 | true =>
  simp only [Bool.not_true, cond_false, Bool.true_and]
  have hdecl := jI env.names (fun n k i => uT n env k i) (fun n x => (rG n x.name).bind fun x4 => cond (!x4) (some true) ((jC n x.ty).bind fun x5 => cond (!x5) (some true) ((oN n env x.ty).bind fun x6 => some (!x6)))) (fun d => !(vX env d)) false
   (fun n k i => rfl)
   (fun d hd => by
    refine Ev.bind (NJ d.name (hs d hd)) ?_
    unfold vX
    cases named d.name with
    | false => exact Ev.ret _
    | true =>
     simp only [Bool.not_true, cond_false, Bool.true_and]
     refine Ev.bind (a := bR d.ty && !(jA 2 d.ty)) ?_ ?_
     ·unfold jC
      refine Ev.bind (a := bR d.ty && !(jA 2 d.ty)) (Ev.bind (kH d.ty) ?_) (Ev.ret _)
      cases bR d.ty with
      | false => exact Ev.ret _
      | true => exact Ev.bind (Ip 2 d.ty) (Ev.ret _)
     ·cases hv : bR d.ty with
      | false => exact Ev.ret _
      | true =>
       cases jA 2 d.ty with
       | true => exact Ev.ret _
       | false => exact Ev.bind (Ny env hv) (Ev.ret _))
  rw [rU] at hdecl
  refine Ev.bind hdecl ?_
  cases hd : env.names.all (vX env) with
  | false => exact Ev.ret _
  | true =>
   simp only [Bool.not_true, cond_false, Bool.true_and]
   have hlen := BK h1 h2 hc
   have hlen1 : (zK env).length ≤ 1000 := by rw [(AX env).length_eq]; exact hlen
   refine Ev.bind (Ni env (by omega)) ?_
   rw [← ao1]
   exact Ev.bind (Ya _ (by omega)) (Ev.ret _)
end Abs
end Go.Proofs.YtiiaccpcoclklaaGreat
namespace Go.Proofs.YtiiaccpcoclklaaGreat
namespace Abs
open Go
theorem fH {env : Env} (h : bJ env = true) : env.carriers.length ≤ 8 ∧ env.names.length ≤ 64 ∧ env.carriers.all HY = true ∧ env.names.all (vX env) = true ∧ (names2 env).Nodup := by
 simp only [bJ, Bool.and_eq_true, Bool.not_eq_true', Bool.or_eq_false_iff, decide_eq_false_iff_not, Qa] at h
 obtain ⟨⟨h1, h2⟩, h3, h4, h5⟩ := h
 exact ⟨by omega, by omega, h3, h4, h5⟩
theorem GR {env : Env} (h : bJ env = true) {d : Decl} (hd : d ∈ env.names) : named d.name = true ∧ bR d.ty = true ∧ jA 2 d.ty = false ∧ (fZ d.ty).all (dU env) = true := by
 have := List.all_eq_true.1 (fH h).2.2.2.1 d hd
 simp only [vX, Bool.and_eq_true, Bool.not_eq_true'] at this
 exact ⟨this.1, this.2.1.1, this.2.1.2, this.2.2⟩
theorem C9 {env : Env} (h : bJ env = true) {c : Carrier} (hc : c ∈ env.carriers) : ident c.name = true ∧ c.elems.length ≤ 8 ∧ c.elems.all ident = true := by
 have := List.all_eq_true.1 (fH h).2.2.1 c hc
 simp only [HY, Bool.and_eq_true, Bool.not_eq_true', decide_eq_false_iff_not] at this
 exact ⟨this.1, by omega, this.2.2⟩
def zh (s : Str) : Ty := .mk 3 s []
def bA (t : Ty) : Ty := .mk 5 [] [t]
def oH (c : Carrier) : List (Str × Ty) := (c.name, bA (zh c.name)) :: c.elems.map fun e => (e, zh c.name)
def sS (env : Env) : List (Str × Ty) := env.carriers.flatMap oH ++ env.names.map fun d => (d.name, d.ty)
def TD (env : Env) : List (Str × Ty) := (env.names.map fun d => (d.name, d.ty)) ++ ((env.carriers.map fun c => (c.name, bA (zh c.name))) ++ env.carriers.flatMap fun c => c.elems.map fun e => (e, zh c.name))
def look (env : Env) (s : Str) : Option Ty := gq (TD env) s
theorem Qn (env : Env) : (sS env).Perm (TD env) := by
 unfold sS TD
 refine List.Perm.trans ?_ List.perm_append_comm
 refine List.Perm.append_right _ ?_
 generalize env.carriers = cs
 induction cs with
 | nil => simp
 | cons c cs ih =>
  simp only [List.flatMap_cons, List.map_cons, List.cons_append, oH]
  refine List.Perm.cons _ ?_
  refine (List.Perm.append_left _ ih).trans ?_
  rw [← List.append_assoc, ← List.append_assoc]
  exact List.Perm.append_right _ List.perm_append_comm
theorem Yq (env : Env) : (sS env).map (·.1) = zK env := by
 simp only [sS, zK, List.map_append, List.map_map, List.map_flatMap, oH, List.map_cons]
 congr 1
 ·congr 1
  funext c
  simp [Function.comp_def]
theorem wY {env : Env} (h : bJ env = true) : ((sS env).map (·.1)).Nodup := by
 rw [Yq, (AX env).nodup_iff]
 exact (fH h).2.2.2.2
theorem C8 {env : Env} (h : bJ env = true) {s : Str} {t : Ty} : look env s = some t ↔ (s, t) ∈ sS env := by
 unfold look
 rw [← Q5 (Qn env) (wY h), FK _ _ _ (wY h)]
theorem YD {env : Env} (h : bJ env = true) : Ev (fun n => zF n env) (gU (sS env) []) := by
 obtain ⟨hc8, hn64, _, _, _⟩ := fH h
 unfold zF
 have hin : ∀ (c : Carrier) (m : List (Str × Ty)), c.elems.length ≤ 8 → m.length ≤ 10000 → Ev (fun n => oQ n c n (0, m)) (.nx (gU (c.elems.map fun e => (e, zh c.name)) m)) := fun c m hce hm => by
  have h1 := j4 (ρ := List (Str × Ty)) c.elems (fun n k i s => oQ n c k (i, s)) (fun n x s => CJ s x (zh c.name)) (fun x s => mR s x (zh c.name)) (fun s => s) (fun suf s => s.length + suf.length ≤ 10008)
   (fun n k i s => rfl)
   (fun x suf s hx hs => by
    simp only [List.length_cons] at hs
    refine ⟨?_, ?_⟩
    ·rw [Kg (by omega)]; exact Ev.ret _
    ·have := E5 s x (zh c.name); omega) (s0 := m) (by omega)
  have hf : ∀ (es : List Str) (m : List (Str × Ty)), es.foldl (fun s x => mR s x (zh c.name)) m = gU (es.map fun e => (e, zh c.name)) m := by
   intro es
   induction es with
   | nil => intro m; rfl
   | cons e es ih => intro m; rw [List.foldl_cons, ih]; rfl
  rw [hf] at h1
  exact h1
 have h1 := Em env.carriers (fun n k i s => yE n env k (i, s)) (fun n x s => (CJ s x.name (bA (zh x.name))).bind fun x4 => (oQ n x n (0, x4)).bind (LR.el (fun s6 => some (.nx s6)) (fun r => some (.rt r)))) (fun x s => .nx (gU (oH x) s)) (fun s => s)
  (fun suf s => s.length + 9 * suf.length ≤ 100)
  (fun n k i s => by
   show cond _ _ _ = _
   congr 1
   show (idx env.carriers i).bind _ = _
   congr 1
   funext x
   show (CJ s x.name (bA (zh x.name))).bind _ = _
   cases CJ s x.name (bA (zh x.name)) with
   | none => rfl
   | some y =>
    simp only [Option.bind_some]
    cases oQ n x n (0, y) with
    | none => rfl
    | some r => cases r <;> rfl)
  (fun x suf s hx hs => by
   simp only [List.length_cons] at hs
   have hx8 := (C9 h hx).2.1
   refine ⟨?_, fun s' he => ?_⟩
   ·rw [Kg (by omega)]
    simp only [Option.bind_some]
    have := E5 s x.name (bA (zh x.name))
    exact Ev.bind (hin x _ hx8 (by omega)) (Ev.ret _)
   ·cases he
    have := JJ (oH x) s
    simp only [oH, List.length_cons, List.length_map] at this ⊢
    omega) (s0 := ([] : List (Str × Ty))) (by simp only [List.length_nil]; omega)
 rw [Uk] at h1
 have hf1 : ∀ (cs : List Carrier) (m : List (Str × Ty)), cs.foldl (fun s x => gU (oH x) s) m = gU (cs.flatMap oH) m := by
  intro cs
  induction cs with
  | nil => intro m; rfl
  | cons c cs ih => intro m; rw [List.foldl_cons, ih, List.flatMap_cons, Ql]
 rw [hf1] at h1
 have hl1 : (gU (env.carriers.flatMap oH) []).length ≤ 100 := by
  have key : ∀ cs : List Carrier, (∀ c ∈ cs, c.elems.length ≤ 8) → (cs.flatMap oH).length ≤ 9 * cs.length := by
   intro cs
   induction cs with
   | nil => intro _; simp
   | cons c cs ih =>
    intro hh
    have a := hh c (List.mem_cons_self ..)
    have b := ih fun c hc => hh c (List.mem_cons_of_mem _ hc)
    simp only [List.flatMap_cons, List.length_append, oH, List.length_cons, List.length_map] at b ⊢
    omega
  have a := key env.carriers fun c hc => (C9 h hc).2.1
  have b := JJ (env.carriers.flatMap oH) []
  simp only [List.length_nil] at b
  omega
 have h2 := j4 (ρ := List (Str × Ty)) env.names (fun n k i s => yu n env k (i, s)) (fun n x s => CJ s x.name x.ty) (fun x s => mR s x.name x.ty) (fun s => s) (fun suf s => s.length + suf.length ≤ 1000)
  (fun n k i s => rfl)
  (fun x suf s hx hs => by
   simp only [List.length_cons] at hs
   refine ⟨?_, ?_⟩
   ·rw [Kg (by omega)]; exact Ev.ret _
   ·have := E5 s x.name x.ty; omega) (s0 := gU (env.carriers.flatMap oH) []) (by omega)
 have hf2 : ∀ (ds : List Decl) (m : List (Str × Ty)), ds.foldl (fun s x => mR s x.name x.ty) m = gU (ds.map fun d => (d.name, d.ty)) m := by
  intro ds
  induction ds with
  | nil => intro m; rfl
  | cons e es ih => intro m; rw [List.foldl_cons, ih]; rfl
 rw [hf2, ← Ql] at h2
 exact Ev.bind h1 (Ev.bind h2 (Ev.ret _))
def bg : Ty := .mk 0 [] []
theorem MO {α β : Type} (f : α → Str) (g : α → β) (l : List α) (k : Str) : gq (l.map fun x => (f x, g x)) k = (l.find? fun x => f x == k).map g := by
 induction l with
 | nil => rfl
 | cons x l ih =>
  rw [List.map_cons, lU, List.find?_cons, ih]
  cases f x == k <;> rfl
def jW (env : Env) : Bool := !(decide (200 < (env.carriers.length : Int)) || decide (200 < (env.names.length : Int))) && !(env.carriers.any fun c => decide (200 < (c.elems.length : Int)))
theorem lN (env : Env) : Ev (fun n => kQ n env) (jW env) := by
 unfold kQ jW
 have h := jI env.carriers (fun n k i => Ew n env k i) (fun _ x => some (decide (200 < (x.elems.length : Int)))) (fun x => decide (200 < (x.elems.length : Int))) false (fun n k i => rfl) (fun x _ => Ev.ret _)
 cases decide (200 < (env.carriers.length : Int)) with
 | true => exact Ev.ret _
 | false =>
  cases decide (200 < (env.names.length : Int)) with
  | true => exact Ev.ret _
  | false =>
   simp only [cond_false, Option.bind_some, Bool.or_false, Bool.not_false, Bool.true_and]
   refine Ev.bind h ?_
   cases env.carriers.any fun c => decide (200 < (c.elems.length : Int))
   ·exact Ev.ret _
   ·exact Ev.ret _
end Abs
end Go.Proofs.YtiiaccpcoclklaaGreat

/-
  From what the claim's form reads of an argument to the abstract values: a datum of the program's types that can be read stands for a plain tree. Conditions: none; lemmas over any program, then at the program's types.
-/
import Derived.Test.YtiiaccpcoclklaaGreatRows
import Derived.Deep.Slices
import Derived.Deep.Strs
import Derived.ProofKit
import Derived.Below
import Derived.Carry
import Derived.Test.YtiiaccpcoclklaaGreatCAbs38xf390fb
import Derived.Test.YtiiaccpcoclklaaGreatCDfxb0d24e
set_option linter.unusedSimpArgs false
set_option linter.unusedVariables false
namespace Go.Proofs.YtiiaccpcoclklaaGreat
namespace Abs
open Go Go.Proofs Go.Deep
def CellsRel (w : World) (κ : Kap) (pv : Prv) (xs : List AV) (cs : List Value) : Prop := cs.length = xs.length ∧ ∀ j, j < xs.length → Rel w κ pv (xs.getD j .unk) (cs.getD j undef)
theorem CellsRel.one {w : World} {κ : Kap} {pv : Prv} {x : AV} {v : Value} (h : Rel w κ pv x v) : CellsRel w κ pv [x] [v] := ⟨rfl, fun j hj => by
 have : j = 0 := by simp at hj; omega
 subst this; exact h⟩
theorem CellsRel.app {w : World} {κ : Kap} {pv : Prv} {xs ys : List AV} {cs ds : List Value} (h : CellsRel w κ pv xs cs) (k : CellsRel w κ pv ys ds) : CellsRel w κ pv (xs ++ ys) (cs ++ ds) := by
 refine ⟨by simp [h.1, k.1], fun j hj => ?_⟩
 by_cases hx : j < xs.length
 ·have e1 : (xs ++ ys).getD j .unk = xs.getD j .unk := by simp [List.getD, List.getElem?_append_left hx]
  have e2 : (cs ++ ds).getD j undef = cs.getD j undef := by simp [List.getD, List.getElem?_append_left (show j < cs.length by rw [h.1]; exact hx)]
  rw [e1, e2]; exact h.2 j hx
 ·have e1 : (xs ++ ys).getD j .unk = ys.getD (j - xs.length) .unk := by simp [List.getD, List.getElem?_append_right (Nat.le_of_not_lt hx)]
  have e2 : (cs ++ ds).getD j undef = ds.getD (j - xs.length) undef := by simp [List.getD, List.getElem?_append_right (show cs.length ≤ j by rw [h.1]; omega), h.1]
  rw [e1, e2]; exact k.2 _ (by simp at hj; omega)
theorem CellsRel.split {w : World} {κ : Kap} {pv : Prv} {xs ys : List AV} {cs : List Value} (hl : cs.length = xs.length + ys.length) (h : CellsRel w κ pv xs (cs.take xs.length)) (k : CellsRel w κ pv ys ((cs.drop xs.length).take ys.length)) : CellsRel w κ pv (xs ++ ys) cs := by
 have := h.app k
 have e : cs.take xs.length ++ (cs.drop xs.length).take ys.length = cs := by
  rw [List.take_of_length_le (l := cs.drop xs.length) (by simp; omega), List.take_append_drop]
 rwa [e] at this
section
variable {H : Type} {enc : TypeId × Value → H} {P : Program} {w : World} {base : Nat} {spare : Nat → Bool} {held : Bool} {κ : Kap} {pv : Prv}
def Reads (enc : TypeId × Value → H) (P : Program) (w : World) (base : Nat) (spare : Nat → Bool) (held : Bool) (κ : Kap) (pv : Prv) {α : Type} (t : TypeId) (f : α → List AV) (fuel : Nat) : Prop :=
 ∀ cs x, DataW.trod enc P w base spare held fuel t cs = some x → ∃ a : α, CellsRel w κ pv (f a) cs
theorem reads_int {t : TypeId} (ht : P.underlying t = some (.int .i64)) (fuel : Nat) : Reads enc P w base spare held κ pv t encI fuel := fun cs x h => by
 obtain ⟨n, rfl, _, hw⟩ := DataW.trod_int ht h
 refine ⟨n, CellsRel.one (.int ?_)⟩
 simpa [Lit.wf, wfInt] using hw
theorem reads_str {t : TypeId} (ht : P.underlying t = some .string) (fuel : Nat) : Reads enc P w base spare held κ pv t encS fuel := fun cs x h => by
 obtain ⟨s, rfl, _, hw⟩ := DataW.trod_string ht h
 refine ⟨s.data.toList, CellsRel.one ?_⟩
 have := Rel.str (w := w) (κ := κ) (pv := pv) (s := s.data.toList) (by
  have : s.data.size ≤ maxLen := hw
  simpa [maxLen] using this)
 simpa using this
theorem reads_slice {α : Type} [Inhabited α] {t e : TypeId} {f : α → List AV} {sz : Nat} (ht : P.underlying t = some (.slice e)) (hc : P.cellsOf e = sz) (hsz : 0 < sz) (hf : ∀ a, (f a).length = sz) (hpv : ∀ b o, ¬ pv b o) {fuel : Nat}
  (he : ∀ n, n < fuel → Reads enc P w base spare held κ pv e f n) : Reads enc P w base spare held κ pv t (fun l : List α => [.slice (l.map f) .shared]) fuel := fun cs x h => by
 rcases DataW.trod_slice ht h with ⟨rfl, _⟩ | ⟨a, len, cap, elems, rest, m, rfl, rfl, _, _, hcap, hmax, hel, hget0, _, _⟩
 ·refine ⟨[], CellsRel.one ?_⟩
  exact .slice (es := []) (tag := .shared) (a := none) (cap := 0) 0 0 sz (fun _ _ => undef) (fun i h => by cases h) (fun h => (h rfl).elim) (Nat.zero_le _) (by simp) (fun i j h => by cases h) (fun i j h => by cases h) (fun i j h => by cases h) trivial
 ·have hget : ∀ i, i < len → ∃ v : List Value × α, w.cells? base (a.add (i * sz)) sz = some v.1 ∧ CellsRel w κ pv (f v.2) v.1 := fun i hi => by
   have h1 := hget0 i hi
   rw [List.getElem?_eq_getElem (by omega), hc] at h1
   obtain ⟨cs', h2, h3⟩ := Option.bind_eq_some_iff.1 h1
   obtain ⟨y, hy⟩ := he m (Nat.lt_succ_self m) cs' _ h3
   exact ⟨(cs', y), h2, hy⟩
  obtain ⟨V, hV⟩ := choose_lt hget
  refine ⟨(List.range len).map fun i => (V i).2, CellsRel.one ?_⟩
  have hlen : (((List.range len).map fun i => (V i).2).map f).length = len := by simp
  have hgetD : ∀ i, i < len → (((List.range len).map fun i => (V i).2).map f).getD i [] = f (V i).2 := fun i hi => by
   simp [List.getD, List.getElem?_map, List.getElem?_range hi]
  have hcell : ∀ i j, i < len → j < sz → w.cell? ((a.add (i * sz)).add j) = some ((V i).1.getD j undef) := fun i j hi hj => by
   obtain ⟨_, h2, h3⟩ := World.cells?_some (hV i hi).1
   rw [h3 j hj, List.getD, List.getElem?_eq_getElem (by omega)]
   rfl
  have hspot : 0 < len → a.spot = none := fun h0 => by
   have := World.cell?_spot (hcell 0 0 h0 hsz)
   simpa [Addr.add] using this
  have hadd : ∀ i j : Nat, a.spot = none → (a.add i).add j = ⟨a.block, a.off + (i + j), none⟩ := fun i j hs => by
   obtain ⟨b, o, s⟩ := a
   simp only at hs
   subst hs
   unfold Addr.add
   by_cases hi : i = 0
   ·subst hi
    by_cases hj : j = 0
    ·subst hj; simp
    ·simp [hj]
   ·by_cases hj : j = 0
    ·subst hj; simp [hi]
    ·simp [hi, hj]; omega
  have key := Rel.slice (w := w) (κ := κ) (pv := pv) (es := ((List.range len).map fun i => (V i).2).map f) (tag := .shared) (a := some a) (cap := cap) a.block a.off sz (fun i j => (V i).1.getD j undef)
   (fun i hi => by rw [hlen] at hi; rw [hgetD i hi, hf]) (fun hne => by
    have h0 : 0 < len := by
     apply Nat.pos_of_ne_zero
     intro h0
     apply hne
     rw [h0]; rfl
    rw [← hspot h0]) (by rw [hlen]; exact hcap) (by rw [hlen]; simp only [maxLen] at hmax; omega)
   (fun i j _ _ => hpv _ _) (fun i j hi hj => by
    rw [hlen] at hi
    have h1 := hcell i j hi hj
    rw [hadd _ _ (hspot (by omega))] at h1
    exact h1)
   (fun i j hi hj => by
    rw [hlen] at hi
    rw [hgetD i hi]
    exact (hV i hi).2.2 j (by rw [hf]; exact hj)) trivial
  rw [hlen] at key
  exact key
end
instance : Inhabited Ty := ⟨.mk 0 [] []⟩
instance : Inhabited Carrier := ⟨⟨[], []⟩⟩
instance : Inhabited Decl := ⟨⟨[], .mk 0 [] []⟩⟩
theorem laidOut : laidOutB Tryz.prog = true := by kernel_rfl
theorem cl9 : Tryz.prog.cellsOf 9 = 1 := by kernel_rfl
theorem cl28 : Tryz.prog.cellsOf 28 = 3 := by kernel_rfl
theorem cl91 : Tryz.prog.cellsOf 91 = 2 := by kernel_rfl
theorem cl60 : Tryz.prog.cellsOf 60 = 4 := by kernel_rfl
theorem cl25 : Tryz.prog.cellsOf 25 = 2 := by kernel_rfl
theorem cl3 : Tryz.prog.cellsOf 3 = 1 := by kernel_rfl
theorem cl26 : Tryz.prog.cellsOf 26 = 1 := by kernel_rfl
theorem cl49 : Tryz.prog.cellsOf 49 = 1 := by kernel_rfl
theorem cl22 : Tryz.prog.cellsOf 22 = 1 := by kernel_rfl
theorem cl23 : Tryz.prog.cellsOf 23 = 1 := by kernel_rfl
end Abs
end Go.Proofs.YtiiaccpcoclklaaGreat
namespace Go.Proofs.YtiiaccpcoclklaaGreat
namespace Abs
open Go Go.Proofs Go.Deep Go.WideShapes
section
variable {H : Type} {enc : TypeId × Value → H} {w : World} {base : Nat} {spare : Nat → Bool} {held : Bool} {κ : Kap} {pv : Prv}
theorem get1 {α : Type} {xs : List α} {i n : Nat} (h : xs.length = n) (hi : i < n) : ∃ y, xs[i]? = some y := ⟨xs[i]'(by omega), List.getElem?_eq_getElem (by omega)⟩
theorem len_encTy (t : Ty) : (encTy t).length = 3 := by rw [encTy_eq]; rfl
set_option maxRecDepth 100000 in
theorem reads_ty (hpv : ∀ b o, ¬ pv b o) (fuel : Nat) : Reads enc Tryz.prog w base spare held κ pv 28 encTy fuel := by
 induction fuel using Nat.strongRecOn with
 | _ fuel ih =>
  intro cs x h
  obtain ⟨xs, n, rfl, _, hl, hlen, hf⟩ := DataW.trod_struct Tryz.underlying28 h
  rw [cl28] at hl
  match cs, hl with
  | [c0, c1, c2], _ =>
   obtain ⟨y0, e0⟩ := get1 (i := 0) hlen (by decide)
   obtain ⟨y1, e1⟩ := get1 (i := 1) hlen (by decide)
   obtain ⟨y2, e2⟩ := get1 (i := 2) hlen (by decide)
   have h0 := hf 0 _ rfl
   have h1 := hf 1 _ rfl
   have h2 := hf 2 _ rfl
   simp only [e0, cl3, List.drop_zero, List.take_succ_cons, List.take_zero] at h0
   simp only [e1, cl9, List.drop_succ_cons, List.drop_zero, List.take_succ_cons, List.take_zero] at h1
   simp only [e2, cl26, List.drop_succ_cons, List.drop_zero, List.take_succ_cons, List.take_zero] at h2
   obtain ⟨k, hk⟩ := reads_int (κ := κ) (pv := pv) Tryz.underlying3 n _ _ h0
   obtain ⟨nm, hn⟩ := reads_str (κ := κ) (pv := pv) Tryz.underlying9 n _ _ h1
   obtain ⟨ks, hks⟩ := reads_slice (f := encTy) Tryz.underlying26 cl28 (by decide) len_encTy hpv (fun m hm => ih m (by omega)) _ _ h2
   refine ⟨.mk k nm ks, ?_⟩
   have := hk.app (hn.app hks)
   rw [encTy_eq]
   exact this
set_option maxRecDepth 100000 in
theorem reads_strs (hpv : ∀ b o, ¬ pv b o) (fuel : Nat) : Reads enc Tryz.prog w base spare held κ pv 49 (fun l : List Str => [.slice (l.map encS) .shared]) fuel :=
 reads_slice (f := encS) Tryz.underlying49 cl9 (by decide) (fun _ => rfl) hpv (fun m _ => reads_str Tryz.underlying9 m)
set_option maxRecDepth 100000 in
theorem reads_carrier (hpv : ∀ b o, ¬ pv b o) (fuel : Nat) : Reads enc Tryz.prog w base spare held κ pv 91 encCarrier fuel := by
 intro cs x h
 obtain ⟨xs, n, rfl, _, hl, hlen, hf⟩ := DataW.trod_struct Tryz.underlying91 h
 rw [cl91] at hl
 match cs, hl with
 | [c0, c1], _ =>
  obtain ⟨y0, e0⟩ := get1 (i := 0) hlen (by decide)
  obtain ⟨y1, e1⟩ := get1 (i := 1) hlen (by decide)
  have h0 := hf 0 _ rfl
  have h1 := hf 1 _ rfl
  simp only [e0, cl9, List.drop_zero, List.take_succ_cons, List.take_zero] at h0
  simp only [e1, cl49, List.drop_succ_cons, List.drop_zero, List.take_succ_cons, List.take_zero] at h1
  obtain ⟨nm, hn⟩ := reads_str (κ := κ) (pv := pv) Tryz.underlying9 n _ _ h0
  obtain ⟨es, hes⟩ := reads_strs hpv n _ _ h1
  exact ⟨⟨nm, es⟩, hn.app hes⟩
set_option maxRecDepth 100000 in
theorem reads_decl (hpv : ∀ b o, ¬ pv b o) (fuel : Nat) : Reads enc Tryz.prog w base spare held κ pv 60 encDecl fuel := by
 intro cs x h
 obtain ⟨xs, n, rfl, _, hl, hlen, hf⟩ := DataW.trod_struct Tryz.underlying60 h
 rw [cl60] at hl
 match cs, hl with
 | [c0, c1, c2, c3], _ =>
  obtain ⟨y0, e0⟩ := get1 (i := 0) hlen (by decide)
  obtain ⟨y1, e1⟩ := get1 (i := 1) hlen (by decide)
  have h0 := hf 0 _ rfl
  have h1 := hf 1 _ rfl
  simp only [e0, cl9, List.drop_zero, List.take_succ_cons, List.take_zero] at h0
  simp only [e1, cl28, List.drop_succ_cons, List.drop_zero, List.take_succ_cons, List.take_zero] at h1
  obtain ⟨nm, hn⟩ := reads_str (κ := κ) (pv := pv) Tryz.underlying9 n _ _ h0
  obtain ⟨t, ht⟩ := reads_ty hpv n _ _ h1
  refine ⟨⟨nm, t⟩, ?_⟩
  have := hn.app ht
  rw [encTy_eq] at this
  exact this
def encEnv (e : Env) : List AV := [.slice (e.carriers.map encCarrier) .shared, .slice (e.names.map encDecl) .shared]
set_option maxRecDepth 100000 in
theorem reads_env (hpv : ∀ b o, ¬ pv b o) (fuel : Nat) : Reads enc Tryz.prog w base spare held κ pv 25 encEnv fuel := by
 intro cs x h
 obtain ⟨xs, n, rfl, _, hl, hlen, hf⟩ := DataW.trod_struct Tryz.underlying25 h
 rw [cl25] at hl
 match cs, hl with
 | [c0, c1], _ =>
  obtain ⟨y0, e0⟩ := get1 (i := 0) hlen (by decide)
  obtain ⟨y1, e1⟩ := get1 (i := 1) hlen (by decide)
  have h0 := hf 0 _ rfl
  have h1 := hf 1 _ rfl
  simp only [e0, cl22, List.drop_zero, List.take_succ_cons, List.take_zero] at h0
  simp only [e1, cl23, List.drop_succ_cons, List.drop_zero, List.take_succ_cons, List.take_zero] at h1
  obtain ⟨cs, hcs⟩ := reads_slice (f := encCarrier) Tryz.underlying22 cl91 (by decide) (fun _ => rfl) hpv (fun m _ => reads_carrier hpv m) _ _ h0
  obtain ⟨ds, hds⟩ := reads_slice (f := encDecl) Tryz.underlying23 cl60 (by decide) (fun _ => rfl) hpv (fun m _ => reads_decl hpv m) _ _ h1
  exact ⟨⟨cs, ds⟩, hcs.app hds⟩
set_option maxRecDepth 100000 in
theorem reads_agg {α : Type} {r : Reach} {b0 : Nat} {t : TypeId} {fs : Array Field} {f : α → List AV} {v : Value} {d : DataW H} {p : List MemPlace} (hs : Tryz.prog.underlying t = some (.struct fs)) (hv : Value.okWide Tryz.prog w r b0 t v)
  (h : DataW.Trod enc Tryz.prog w base spare held t v d p) (hr : ∀ fuel, Reads enc Tryz.prog w base spare held κ pv t f fuel) : ∃ a : α, Rel w κ pv (.agg (f a)) v := by
 obtain ⟨cs, rfl, hsz⟩ := okWide_struct hs hv
 obtain ⟨fuel, hf⟩ := h
 obtain ⟨a, h1, h2⟩ := hr fuel _ _ hf
 simp only [Value.cells] at h1 h2
 refine ⟨a, ?_⟩
 have := Rel.agg (w := w) (κ := κ) (pv := pv) h1 h2
 simpa using this
end
set_option maxRecDepth 100000 in
theorem entry0 (w : World) : Entry [] (fun _ _ => False) [] w :=
 ⟨rfl, fun l _ => rfl, fun l b h => by simp [at?] at h, fun l l' b h => by simp [at?] at h, fun l b h => by simp [at?] at h, fun _ _ h => h.elim, fun _ _ _ h => h.elim⟩
set_option maxRecDepth 100000 in
theorem pv0 : ∀ b o, ¬ pvOf (fun _ _ => False) [] [] b o := fun b o h => by
 rcases h with h | ⟨l, h, _⟩
 ·exact h
 ·simp [at?] at h
set_option maxRecDepth 100000 in
theorem calls_of {f : Nat} {args : List AV} {vs : List Value} {w : World} (h : ACalls Tryz.prog f args [] (.bool true) []) (hl : vs.length = args.length)
  (hr : ∀ j, j < args.length → Rel w [] (pvOf (fun _ _ => False) [] []) (args.getD j .unk) (vs.getD j undef)) :
  Calls Tryz.prog f vs.toArray w fun e w' => e = .returned (.bool true) ∧ Go.RowKit.Below w.heap.size w w' := by
 refine (h [] (fun _ _ => False) w vs (entry0 w) hl hr).mono fun e w' ⟨v, κ', he, hL, hv⟩ => ?_
 cases hv
 exact ⟨he, hL.os, hL.tape, hL.output, hL.evo.size, fun k hk => hL.kept k hk fun l h => by simp [at?] at h⟩
theorem names_short {env : Env} {w : World} {κ : Kap} {pv : Prv} {v : Value} (h : Rel w κ pv (.agg (encEnv env)) v) : ∀ d ∈ env.names, d.name.length ≤ 9223372036854775807 := by
 cases h with
 | @agg _ vs hl hj =>
  have h1 := hj 1 (by simp [encEnv])
  intro d hd
  obtain ⟨i, hi, rfl⟩ := List.mem_iff_getElem.1 hd
  have e : (encEnv env).getD 1 .unk = .slice (env.names.map encDecl) .shared := rfl
  rw [e] at h1
  generalize vs.getD 1 undef = u at h1
  cases h1 with
  | slice b off sz f h1 h2 h3 h3' h4 h5 h6 _ =>
   have hi' : i < (env.names.map encDecl).length := by simpa using hi
   have eg : (env.names.map encDecl).getD i [] = encDecl env.names[i] := by simp [List.getD, List.getElem?_map, List.getElem?_eq_getElem hi]
   have hsz := h1 i hi'
   rw [eg] at hsz
   have hz : sz = 4 := hsz.symm
   have := h6 i 0 hi' (by omega)
   rw [eg] at this
   have e2 : (encDecl env.names[i]).getD 0 .unk = .str env.names[i].name := rfl
   rw [e2] at this
   generalize f i 0 = g at this
   cases this
   assumption
end Abs
end Go.Proofs.YtiiaccpcoclklaaGreat
namespace Go.Proofs.YtiiaccpcoclklaaGreat
namespace Abs
open Go
def Ev {α : Type} (f : Nat → Option α) (v : α) : Prop := ∃ N, ∀ n, N ≤ n → f n = some v
theorem Ev.ret {α : Type} (v : α) : Ev (fun _ => some v) v := ⟨0, fun _ _ => rfl⟩
theorem Ev.of {α : Type} {f : Nat → Option α} {v : α} (h : ∀ n, f n = some v) : Ev f v := ⟨0, fun n _ => h n⟩
theorem Ev.bind {α β : Type} {f : Nat → Option α} {g : α → Nat → Option β} {a : α} {b : β} (h1 : Ev f a) (h2 : Ev (g a) b) : Ev (fun n => (f n).bind fun x => g x n) b := by
 obtain ⟨N, hN⟩ := h1
 obtain ⟨M, hM⟩ := h2
 refine ⟨max N M, fun n hn => ?_⟩
 show (f n).bind (fun x => g x n) = some b
 rw [hN n (by omega)]
 exact hM n (by omega)
theorem Ev.succ {α : Type} {f : Nat → Option α} {v : α} (h : Ev (fun n => f (n + 1)) v) : Ev f v := by
 obtain ⟨N, hN⟩ := h
 refine ⟨N + 1, fun n hn => ?_⟩
 cases n with
 | zero => omega
 | succ n => exact hN n (by omega)
theorem Ev.pos {α : Type} {b : Bool} {f g : Nat → Option α} {v : α} (hb : b = true) (h1 : Ev f v) : Ev (fun n => cond b (f n) (g n)) v := by subst hb; exact h1
theorem Ev.neg {α : Type} {b : Bool} {f g : Nat → Option α} {v : α} (hb : b = false) (h1 : Ev g v) : Ev (fun n => cond b (f n) (g n)) v := by subst hb; exact h1
def runL {α σ τ ρ : Type} (st : α → σ → LR σ ρ) (fin : σ → τ) : List α → σ → LR τ ρ
 | [], s => .nx (fin s)
 | x :: xs, s => match st x s with
  | .nx s' => runL st fin xs s'
  | .rt r => .rt r
theorem idx_at {α : Type} (pre : List α) (x : α) (suf : List α) : idx (pre ++ x :: suf) (pre.length : Int) = some x := by
 unfold idx
 rw [if_pos (by omega)]
 simp
theorem loopEvAt {α σ τ ρ : Type} (l : List α) (L : Nat → Nat → Int → σ → Option (LR τ ρ)) (step : Nat → α → σ → Option (LR σ ρ)) (st : α → σ → LR σ ρ) (fin : σ → τ) (I : List α → σ → Prop)
  (hL : ∀ n k i s, L n (k + 1) i s = cond (decide (i < (l.length : Int))) ((idx l i).bind fun x => (step n x s).bind (LR.el (fun s' => L n k (i + 1) s') (fun r => some (.rt r)))) (some (.nx (fin s))))
  (hI : ∀ x suf s, x ∈ l → I (x :: suf) s → Ev (fun n => step n x s) (st x s) ∧ ∀ s', st x s = .nx s' → I suf s') (pre suf : List α) (hl : l = pre ++ suf) {s0 : σ} (h0 : I suf s0) : Ev (fun n => L n n (pre.length : Int) s0) (runL st fin suf s0) := by
 have key : ∀ (suf pre : List α) (s : σ), l = pre ++ suf → I suf s → ∃ N, ∀ n, N ≤ n → ∀ k, suf.length + 1 ≤ k → L n k (pre.length : Int) s = some (runL st fin suf s) := by
  intro suf
  induction suf with
  | nil =>
   intro pre s hl _
   refine ⟨0, fun n _ k hk => ?_⟩
   cases k with
   | zero => simp at hk
   | succ k =>
    rw [hL, decide_eq_false (by rw [hl]; simp)]
    rfl
  | cons x suf ih =>
   intro pre s hl hIs
   obtain ⟨⟨N1, h1⟩, h2⟩ := hI x suf s (by rw [hl]; simp) hIs
   replace h1 : ∀ n, N1 ≤ n → step n x s = some (st x s) := h1
   have hi : decide ((pre.length : Int) < (l.length : Int)) = true := decide_eq_true (by rw [hl]; simp; omega)
   have hx : idx l (pre.length : Int) = some x := by rw [hl]; exact idx_at pre x suf
   cases hs : st x s with
   | rt r =>
    refine ⟨N1, fun n hn k hk => ?_⟩
    cases k with
    | zero => simp at hk
    | succ k =>
     rw [hL, hi, hx]
     simp only [cond_true, Option.bind_some]
     rw [h1 n hn, hs]
     simp [runL, hs]
   | nx s' =>
    obtain ⟨N2, h3⟩ := ih (pre ++ [x]) s' (by rw [hl]; simp) (h2 s' hs)
    refine ⟨max N1 N2, fun n hn k hk => ?_⟩
    cases k with
    | zero => simp at hk
    | succ k =>
     rw [hL, hi, hx]
     simp only [cond_true, Option.bind_some]
     rw [h1 n (by omega), hs]
     simp only [Option.bind_some, LR.el]
     have := h3 n (by omega) k (by simp at hk; omega)
     simp only [List.length_append, List.length_singleton, Int.natCast_add, Int.natCast_one] at this
     rw [this]
     simp [runL, hs]
 obtain ⟨N, hN⟩ := key suf pre s0 hl h0
 exact ⟨max N (suf.length + 1), fun n hn => hN n (by omega) n (by omega)⟩
theorem loopEv {α σ τ ρ : Type} (l : List α) (L : Nat → Nat → Int → σ → Option (LR τ ρ)) (step : Nat → α → σ → Option (LR σ ρ)) (st : α → σ → LR σ ρ) (fin : σ → τ) (I : List α → σ → Prop)
  (hL : ∀ n k i s, L n (k + 1) i s = cond (decide (i < (l.length : Int))) ((idx l i).bind fun x => (step n x s).bind (LR.el (fun s' => L n k (i + 1) s') (fun r => some (.rt r)))) (some (.nx (fin s))))
  (hI : ∀ x suf s, x ∈ l → I (x :: suf) s → Ev (fun n => step n x s) (st x s) ∧ ∀ s', st x s = .nx s' → I suf s') {s0 : σ} (h0 : I l s0) : Ev (fun n => L n n 0 s0) (runL st fin l s0) :=
 loopEvAt l L step st fin I hL hI [] l rfl h0
theorem runL_stop {α ρ : Type} (p : α → Bool) (r : ρ) : ∀ (l : List α) (u : Unit), runL (τ := Unit) (fun x _ => cond (p x) (.rt r) (.nx ())) (fun _ => ()) l u = cond (l.any p) (.rt r) (.nx ())
 | [], _ => rfl
 | x :: xs, u => by
  simp only [runL, List.any_cons]
  cases p x
  ·exact runL_stop p r xs ()
  ·rfl
theorem loopStopAt {α ρ : Type} (l : List α) (L : Nat → Nat → Int → Option (LR Unit ρ)) (step : Nat → α → Option Bool) (p : α → Bool) (r : ρ)
  (hL : ∀ n k i, L n (k + 1) i = cond (decide (i < (l.length : Int))) ((idx l i).bind fun x => (step n x).bind fun b => cond b (some (.rt r)) (L n k (i + 1))) (some (.nx ())))
  (hp : ∀ x ∈ l, Ev (fun n => step n x) (p x)) (pre suf : List α) (hl : l = pre ++ suf) : Ev (fun n => L n n (pre.length : Int)) (cond (suf.any p) (.rt r) (.nx ())) := by
 have := loopEvAt l (fun n k i (_ : Unit) => L n k i) (fun n x _ => (step n x).bind fun b => cond b (some (.rt r)) (some (.nx ()))) (fun x _ => cond (p x) (.rt r) (.nx ())) (fun _ => ()) (fun _ _ => True)
  (fun n k i s => by
   rw [hL]
   congr 1
   congr 1
   funext x
   cases step n x with
   | none => rfl
   | some b => cases b <;> rfl)
  (fun x suf s hx _ => ⟨by
   refine Ev.bind (hp x hx) ?_
   cases p x
   ·exact Ev.ret _
   ·exact Ev.ret _, fun _ _ => trivial⟩) pre suf hl (s0 := ()) trivial
 rw [runL_stop] at this
 exact this
theorem loopStop {α ρ : Type} (l : List α) (L : Nat → Nat → Int → Option (LR Unit ρ)) (step : Nat → α → Option Bool) (p : α → Bool) (r : ρ)
  (hL : ∀ n k i, L n (k + 1) i = cond (decide (i < (l.length : Int))) ((idx l i).bind fun x => (step n x).bind fun b => cond b (some (.rt r)) (L n k (i + 1))) (some (.nx ())))
  (hp : ∀ x ∈ l, Ev (fun n => step n x) (p x)) : Ev (fun n => L n n 0) (cond (l.any p) (.rt r) (.nx ())) := loopStopAt l L step p r hL hp [] l rfl
def runI {α σ τ ρ : Type} (st : Int → α → σ → LR σ ρ) (fin : σ → τ) : Int → List α → σ → LR τ ρ
 | _, [], s => .nx (fin s)
 | i, x :: xs, s => match st i x s with
  | .nx s' => runI st fin (i + 1) xs s'
  | .rt r => .rt r
theorem loopEvI {α σ τ ρ : Type} (l : List α) (L : Nat → Nat → Int → σ → Option (LR τ ρ)) (step : Nat → Int → α → σ → Option (LR σ ρ)) (st : Int → α → σ → LR σ ρ) (fin : σ → τ) (I : Int → List α → σ → Prop)
  (hL : ∀ n k i s, L n (k + 1) i s = cond (decide (i < (l.length : Int))) ((idx l i).bind fun x => (step n i x s).bind (LR.el (fun s' => L n k (i + 1) s') (fun r => some (.rt r)))) (some (.nx (fin s))))
  (hI : ∀ i x suf s, x ∈ l → I i (x :: suf) s → Ev (fun n => step n i x s) (st i x s) ∧ ∀ s', st i x s = .nx s' → I (i + 1) suf s') {s0 : σ} (h0 : I 0 l s0) : Ev (fun n => L n n 0 s0) (runI st fin 0 l s0) := by
 have key : ∀ (suf pre : List α) (s : σ), l = pre ++ suf → I (pre.length : Int) suf s → ∃ N, ∀ n, N ≤ n → ∀ k, suf.length + 1 ≤ k → L n k (pre.length : Int) s = some (runI st fin (pre.length : Int) suf s) := by
  intro suf
  induction suf with
  | nil =>
   intro pre s hl _
   refine ⟨0, fun n _ k hk => ?_⟩
   cases k with
   | zero => simp at hk
   | succ k =>
    rw [hL, decide_eq_false (by rw [hl]; simp)]
    rfl
  | cons x suf ih =>
   intro pre s hl hIs
   obtain ⟨⟨N1, h1⟩, h2⟩ := hI _ x suf s (by rw [hl]; simp) hIs
   replace h1 : ∀ n, N1 ≤ n → step n (pre.length : Int) x s = some (st (pre.length : Int) x s) := h1
   have hi : decide ((pre.length : Int) < (l.length : Int)) = true := decide_eq_true (by rw [hl]; simp; omega)
   have hx : idx l (pre.length : Int) = some x := by rw [hl]; exact idx_at pre x suf
   cases hs : st (pre.length : Int) x s with
   | rt r =>
    refine ⟨N1, fun n hn k hk => ?_⟩
    cases k with
    | zero => simp at hk
    | succ k =>
     rw [hL, hi, hx]
     simp only [cond_true, Option.bind_some]
     rw [h1 n hn, hs]
     simp [runI, hs]
   | nx s' =>
    have h3 := h2 s' hs
    have e : ((pre ++ [x]).length : Int) = (pre.length : Int) + 1 := by simp
    obtain ⟨N2, h4⟩ := ih (pre ++ [x]) s' (by rw [hl]; simp) (by rw [e]; exact h3)
    refine ⟨max N1 N2, fun n hn k hk => ?_⟩
    cases k with
    | zero => simp at hk
    | succ k =>
     rw [hL, hi, hx]
     simp only [cond_true, Option.bind_some]
     rw [h1 n (by omega), hs]
     simp only [Option.bind_some, LR.el]
     have := h4 n (by omega) k (by simp at hk; omega)
     rw [e] at this
     rw [this]
     simp [runI, hs]
 obtain ⟨N, hN⟩ := key l [] s0 rfl h0
 exact ⟨max N (l.length + 1), fun n hn => hN n (by omega) n (by omega)⟩
def findI {α : Type} (p : α → Bool) : Int → List α → Int
 | _, [] => -1
 | i, x :: xs => cond (p x) i (findI p (i + 1) xs)
theorem runI_find {α : Type} (p : α → Bool) : ∀ (l : List α) (i : Int), (match runI (τ := Unit) (fun i x _ => cond (p x) (.rt i) (.nx ())) (fun _ => ()) i l () with | .nx _ => (-1 : Int) | .rt r => r) = findI p i l
 | [], _ => rfl
 | x :: xs, i => by
  simp only [runI, findI]
  cases p x
  ·exact runI_find p xs (i + 1)
  ·rfl
theorem loopFind {α : Type} (l : List α) (L : Nat → Nat → Int → Option (LR Unit Int)) (step : Nat → α → Option Bool) (p : α → Bool)
  (hL : ∀ n k i, L n (k + 1) i = cond (decide (i < (l.length : Int))) ((idx l i).bind fun x => (step n x).bind fun b => cond b (some (.rt i)) (L n k (i + 1))) (some (.nx ())))
  (hp : ∀ x ∈ l, Ev (fun n => step n x) (p x)) : Ev (fun n => (L n n 0).bind (LR.el (fun _ => some (-1)) (fun r => some r))) (findI p 0 l) := by
 have := loopEvI l (fun n k i (_ : Unit) => L n k i) (fun n i x _ => (step n x).bind fun b => cond b (some (.rt i)) (some (.nx ()))) (fun i x _ => cond (p x) (.rt i) (.nx ())) (fun _ => ()) (fun _ _ _ => True)
  (fun n k i s => by
   rw [hL]
   congr 1
   congr 1
   funext x
   cases step n x with
   | none => rfl
   | some b => cases b <;> rfl)
  (fun i x suf s hx _ => ⟨by
   refine Ev.bind (hp x hx) ?_
   cases p x
   ·exact Ev.ret _
   ·exact Ev.ret _, fun _ _ => trivial⟩) (s0 := ()) trivial
 refine Ev.bind this ?_
 rw [← runI_find]
 generalize runI (τ := Unit) (fun i x _ => cond (p x) (.rt i) (.nx ())) (fun _ => ()) 0 l () = R
 cases R
 ·exact Ev.ret _
 ·exact Ev.ret _
theorem findI_ge {α : Type} (p : α → Bool) : ∀ (l : List α) (i : Int), 0 ≤ i → decide (0 ≤ findI p i l) = l.any p
 | [], _, _ => rfl
 | x :: xs, i, h => by
  have ih := findI_ge p xs (i + 1) (by omega)
  by_cases hx : p x = true
  ·simp [findI, hx, h]
  ·simp only [Bool.not_eq_true] at hx
   simpa [findI, hx] using ih
theorem sidx_idx (s : List UInt8) (i : Int) : sidx s i = (idx s i).map fun c => (c.toNat : Int) := by
 unfold sidx idx
 by_cases h : 0 ≤ i
 ·rw [if_pos h]
  by_cases h2 : i < s.length
  ·rw [if_pos ⟨h, h2⟩]
   have : i.toNat < s.length := by omega
   simp [List.getD, List.getElem?_eq_getElem this]
  ·rw [if_neg (fun hh => h2 hh.2), List.getElem?_eq_none (by omega)]; rfl
 ·rw [if_neg (fun hh => h hh.1), if_neg h]; rfl
theorem wrap64 {n : Int} (h1 : -9223372036854775808 ≤ n) (h2 : n ≤ 9223372036854775807) : IntKind.wrap .i64 n = n := (w64_id h1 h2).symm
end Abs
end Go.Proofs.YtiiaccpcoclklaaGreat
namespace Go.Proofs.YtiiaccpcoclklaaGreat
namespace Abs
open Go
def letB (c : Int) : Bool := (decide (97 ≤ c) && decide (c ≤ 122)) || (decide (65 ≤ c) && decide (c ≤ 90))
def digB (c : Int) : Bool := decide (48 ≤ c) && decide (c ≤ 57)
def wordB (c : Int) : Bool := letB c || (digB c || c == 95)
theorem term_letter_eq (n : Nat) (c : Int) : term_letter n c = some (letB c) := by
 unfold term_letter letB
 cases decide (97 ≤ c) <;> cases decide (c ≤ 122) <;> cases decide (65 ≤ c) <;> rfl
theorem R1_letter_eq (n : Nat) (c : Int) : R1_letter n c = some (letB c) := by
 unfold R1_letter letB
 cases decide (97 ≤ c) <;> cases decide (c ≤ 122) <;> cases decide (65 ≤ c) <;> rfl
theorem term_digit_eq (n : Nat) (c : Int) : term_digit n c = some (digB c) := by
 unfold term_digit digB
 cases decide (48 ≤ c) <;> rfl
theorem R1_digit_eq (n : Nat) (c : Int) : R1_digit n c = some (digB c) := by
 unfold R1_digit digB
 cases decide (48 ≤ c) <;> rfl
theorem term_inWord_eq (n : Nat) (c : Int) : term_inWord n c = some (wordB c) := by
 unfold term_inWord wordB
 rw [term_letter_eq, term_digit_eq]
 cases letB c <;> cases digB c <;> rfl
theorem R1_In_ev (p0 : Str) (l : List Str) : Ev (fun n => R1_In n p0 l) (l.any fun x => x == p0) := by
 unfold R1_In
 have h := loopStop l (fun n k i => R1_In_L0 n p0 l k i) (fun _ x => some (x == p0)) (fun x => x == p0) true (fun n k i => rfl) (fun x _ => Ev.ret _)
 refine Ev.bind h ?_
 cases l.any fun x => x == p0
 ·exact Ev.ret _
 ·exact Ev.ret _
def kws : List Str := [[116, 114, 117, 101], [102, 97, 108, 115, 101], [110, 111, 116], [111, 114], [102, 111, 114, 97, 108, 108], [101, 120, 105, 115, 116, 115], [105, 110], [110, 111, 116, 105, 110], [115, 117, 98], [109, 111, 100], [102, 117, 110], [99, 97, 114, 100], [109, 105, 110], [109, 97, 120], [100, 111, 109], [114, 97, 110], [80, 79, 87], [105, 110, 116], [98, 111, 111, 108], [115, 101, 116], [112, 97, 105, 114]]
def kwB (s : Str) : Bool := kws.any fun x => x == s
theorem R1_Keyword_ev (s : Str) : Ev (fun n => R1_Keyword n s) (kwB s) := by
 unfold R1_Keyword
 exact Ev.bind (R1_In_ev s _) (Ev.ret _)
theorem chainB (a b : Bool) : cond a (some a) (some b) = some (a || b) := by cases a <;> rfl
theorem term_keyword_eq (n : Nat) (s : Str) : term_keyword n s = some (kwB s) := by
 unfold term_keyword
 simp only [chainB, Option.bind_some]
 have h : ∀ b : Bool, cond b (some true) (some false) = some b := fun b => by cases b <;> rfl
 rw [h]
 simp only [kwB, kws, List.any_cons, List.any_nil, Bool.or_false]
 simp only [BEq.comm (a := s)]
def ident (s : Str) : Bool := match s with
 | [] => false
 | c :: cs => decide (cs.length < 16) && (letB (c.toNat : Int) && (!(kwB (c :: cs)) && cs.all fun c => wordB (c.toNat : Int)))
theorem any_not {α : Type} (p : α → Bool) (l : List α) : l.any (fun x => !(p x)) = !(l.all p) := by
 induction l with
 | nil => rfl
 | cons x l ih => simp [ih]
theorem term_Identifier_ev (s : Str) : Ev (fun n => term_Identifier n s) (ident s) := by
 unfold term_Identifier
 cases s with
 | nil => exact Ev.of fun n => rfl
 | cons c cs =>
  have hloop : Ev (fun n => term_Identifier_L0 n (c :: cs) n 0) (cond ((c :: cs).any fun c => !(wordB (c.toNat : Int))) (.rt false) (.nx ())) := by
   refine loopStop (c :: cs) (fun n k i => term_Identifier_L0 n (c :: cs) k i) (fun _ x => some (!(wordB (x.toNat : Int)))) (fun x => !(wordB (x.toNat : Int))) false (fun n k i => ?_) (fun x _ => Ev.ret _)
   show cond _ _ _ = _
   congr 1
   rw [sidx_idx]
   cases idx (c :: cs) i with
   | none => rfl
   | some x =>
    simp only [Option.map_some, Option.bind_some, term_inWord_eq]
  have hs0 : sidx (c :: cs) 0 = some (c.toNat : Int) := by rw [sidx_idx]; rfl
  have hne : ((c :: cs) == ([] : Str)) = false := by simp
  simp only [hne, cond_false, hs0, Option.bind_some, term_letter_eq, term_keyword_eq]
  by_cases hl : cs.length < 16
  ·have h1 : decide (16 < ((c :: cs).length : Int)) = false := decide_eq_false (by simp; omega)
   simp only [h1, cond_false, ident, decide_eq_true hl, Bool.true_and]
   cases hlet : letB (c.toNat : Int) with
   | false => exact Ev.ret _
   | true =>
    cases hk : kwB (c :: cs) with
    | true => exact Ev.ret _
    | false =>
     simp only [Bool.not_true, cond_false, Option.bind_some, Bool.true_and, Bool.not_false]
     refine Ev.bind hloop ?_
     rw [any_not]
     simp only [List.all_cons, wordB, hlet, Bool.true_or, Bool.true_and]
     cases cs.all fun c => letB (c.toNat : Int) || (digB (c.toNat : Int) || (c.toNat : Int) == 95)
     ·exact Ev.ret _
     ·exact Ev.ret _
  ·have h1 : decide (16 < ((c :: cs).length : Int)) = true := decide_eq_true (by simp; omega)
   simp only [h1, cond_true, Option.bind_some, ident, decide_eq_false hl, Bool.false_and]
   exact Ev.ret _
theorem R1_Identifier_ev (s : Str) : Ev (fun n => R1_Identifier n s) (ident s) := by
 unfold R1_Identifier
 cases s with
 | nil => exact Ev.of fun n => rfl
 | cons c cs =>
  have hloop : Ev (fun n => R1_Identifier_L0 n (c :: cs) n 1) (cond (cs.any fun c => !(wordB (c.toNat : Int))) (.rt false) (.nx ())) := by
   refine loopStopAt (c :: cs) (fun n k i => R1_Identifier_L0 n (c :: cs) k i) (fun _ x => some (!(wordB (x.toNat : Int)))) (fun x => !(wordB (x.toNat : Int))) false (fun n k i => ?_) (fun x _ => Ev.ret _) [c] cs rfl
   show cond _ _ _ = _
   congr 1
   rw [sidx_idx]
   cases idx (c :: cs) i with
   | none => rfl
   | some x =>
    simp only [Option.map_some, Option.bind_some, R1_letter_eq, R1_digit_eq, wordB]
    cases letB (x.toNat : Int) <;> cases digB (x.toNat : Int) <;> rfl
  have hs0 : sidx (c :: cs) 0 = some (c.toNat : Int) := by rw [sidx_idx]; rfl
  have hne : decide (((c :: cs).length : Int) < 1) = false := decide_eq_false (by simp; omega)
  simp only [hne, cond_false, hs0, Option.bind_some, R1_letter_eq]
  by_cases hl : cs.length < 16
  ·have h1 : decide (16 < ((c :: cs).length : Int)) = false := decide_eq_false (by simp; omega)
   simp only [h1, cond_false, ident, decide_eq_true hl, Bool.true_and]
   cases hlet : letB (c.toNat : Int) with
   | false => exact Ev.ret _
   | true =>
    simp only [Bool.not_true, cond_false, Bool.true_and]
    refine Ev.bind (a := kwB (c :: cs)) (Ev.bind (R1_Keyword_ev _) (Ev.ret _)) ?_
    cases hk : kwB (c :: cs) with
    | true => exact Ev.ret _
    | false =>
     simp only [cond_false, Bool.true_and, Bool.not_false]
     refine Ev.bind hloop ?_
     rw [any_not]
     cases cs.all fun c => wordB (c.toNat : Int)
     ·exact Ev.ret _
     ·exact Ev.ret _
  ·have h1 : decide (16 < ((c :: cs).length : Int)) = true := decide_eq_true (by simp; omega)
   simp only [h1, cond_true, Option.bind_some, ident, decide_eq_false hl, Bool.false_and]
   exact Ev.ret _
def unprime (s : Str) : Str := if s.getLast? = some 39 then s.dropLast else s
theorem scut_all {α : Type} (s : List α) (k : Nat) (h : k ≤ s.length) : scut s 0 (k : Int) = some (s.take k) := by
 unfold scut
 rw [if_pos (by omega)]
 simp
theorem TrimSuffix_eq (n : Nat) (s : Str) (hs : s.length ≤ 9223372036854775807) : strings_TrimSuffix n s [39] = some (unprime s) := by
 unfold strings_TrimSuffix internal_stringslite_TrimSuffix internal_stringslite_HasSuffix
 rcases List.eq_nil_or_concat s with rfl | ⟨t, c, rfl⟩
 ·rfl
 ·have hl : ((t ++ [c]).length : Int) - (([39] : Str).length : Int) = (t.length : Int) := by simp
  have hd : decide ((([39] : Str).length : Int) ≤ ((t ++ [c]).length : Int)) = true := decide_eq_true (by simp; omega)
  simp only [List.concat_eq_append] at hs ⊢
  rw [hl, hd, wrap64 (by omega) (by simp at hs; omega)]
  have h1 : scut (t ++ [c]) (t.length : Int) ((t ++ [c]).length : Int) = some [c] := by
   unfold scut
   rw [if_pos (by simp; omega)]
   simp
  have h2 : scut (t ++ [c]) 0 (t.length : Int) = some t := by rw [scut_all _ _ (by simp)]; simp
  simp only [cond_true, h1, h2, Option.bind_some]
  unfold unprime
  rw [List.getLast?_concat, List.dropLast_concat]
  by_cases hc : c = 39
  ·subst hc; simp
  ·have : (([c] : Str) == [39]) = false := by simp [hc]
   rw [this, if_neg (by simpa using hc)]; rfl
def named (s : Str) : Bool := ident (unprime s)
theorem nameable_ev (s : Str) (hs : s.length ≤ 9223372036854775807) : Ev (fun n => typing_nameable n s) (named s) := by
 unfold typing_nameable
 simp only [TrimSuffix_eq _ s hs, Option.bind_some]
 exact Ev.bind (term_Identifier_ev _) (Ev.ret _)
theorem ident_word {s : Str} (h : ident s = true) : ∀ c ∈ s, wordB (c.toNat : Int) = true := by
 cases s with
 | nil => cases h
 | cons c cs =>
  simp only [ident, Bool.and_eq_true, decide_eq_true_eq, List.all_eq_true] at h
  intro x hx
  rcases List.mem_cons.1 hx with rfl | hx
  ·simp [wordB, h.2.1]
  ·exact h.2.2.2 x hx
theorem R1_Named_ev (s : Str) : Ev (fun n => R1_Named n s) (named s) := by
 unfold R1_Named
 have hp : Ev (fun n => R1_Primed n s) (decide (s.getLast? = some 39) && ident s.dropLast) := by
  unfold R1_Primed
  rcases List.eq_nil_or_concat s with rfl | ⟨t, c, rfl⟩
  ·exact Ev.ret _
  ·simp only [List.concat_eq_append, List.getLast?_concat, List.dropLast_concat]
   cases t with
   | nil =>
    have h1 : decide (1 < (([] ++ [c] : Str).length : Int)) = false := rfl
    simp only [h1, cond_false, Option.bind_some]
    have : ident ([] : Str) = false := rfl
    rw [this, Bool.and_false]; exact Ev.ret _
   | cons d t =>
    have h1 : decide (1 < ((d :: t ++ [c] : Str).length : Int)) = true := decide_eq_true (by simp; omega)
    have hlen : (((d :: t ++ [c] : Str).length : Int) - 1) = ((d :: t).length : Int) := by simp
    have h2 : sidx (d :: t ++ [c]) (((d :: t ++ [c] : Str).length : Int) - 1) = some (c.toNat : Int) := by
     rw [hlen, sidx_idx, show (d :: t ++ [c] : Str) = (d :: t) ++ c :: [] from rfl, idx_at]; rfl
    have h3 : scut (d :: t ++ [c]) 0 (((d :: t ++ [c] : Str).length : Int) - 1) = some (d :: t) := by rw [hlen, scut_all _ _ (by simp)]; simp
    simp only [h1, cond_true, h2, h3, Option.bind_some]
    by_cases hc : c = 39
    ·subst hc
     simp only [show ((((39 : UInt8).toNat : Nat) : Int) == 39) = true from rfl, cond_true, decide_true, Bool.true_and]
     exact Ev.bind (Ev.bind (R1_Identifier_ev _) (Ev.ret _)) (Ev.ret _)
    ·have e : (((c.toNat : Nat) : Int) == 39) = false := by
      apply beq_false_of_ne
      intro h
      apply hc
      have : c.toNat = 39 := by omega
      exact UInt8.toNat_inj.1 this
     rw [e]
     have e2 : decide (some c = some (39 : UInt8)) = false := decide_eq_false (by simpa using hc)
     simp only [cond_false, Option.bind_some, e2, Bool.false_and]
     exact Ev.ret _
 refine Ev.bind (a := named s) ?_ (Ev.ret _)
 refine Ev.bind (R1_Identifier_ev s) ?_
 unfold named unprime
 by_cases hq : s.getLast? = some 39
 ·have hi : ident s = false := by
   cases h : ident s with
   | false => rfl
   | true =>
    have := ident_word h 39 (List.mem_of_getLast? hq)
    cases this
  rw [hi, if_pos hq]
  rw [decide_eq_true hq, Bool.true_and] at hp
  exact Ev.bind hp (Ev.ret _)
 ·rw [if_neg hq]
  rw [decide_eq_false hq, Bool.false_and] at hp
  cases ident s
  ·exact Ev.bind hp (Ev.ret _)
  ·exact Ev.ret _
end Abs
end Go.Proofs.YtiiaccpcoclklaaGreat
namespace Go.Proofs.YtiiaccpcoclklaaGreat
namespace Abs
open Go
theorem Ty.ind {P : Ty → Prop} (h : ∀ k n ks, (∀ t ∈ ks, P t) → P (.mk k n ks)) (t : Ty) : P t := by
 match t with
 | .mk k n ks => exact h k n ks fun u _ => Ty.ind h u
termination_by SizeOf.sizeOf t
decreasing_by
 rename_i hu
 have := List.sizeOf_lt_of_mem hu
 simp only [Ty.mk.sizeOf_spec]
 omega
def headT (k : Int) (nm : Str) (len : Nat) (d : Int) : Bool :=
 !(k == 2 && decide (1 < d)) && ((((k == 1 || (k == 2 || k == 3)) && len == 0) || ((k == 4 && len == 2) || (k == 5 && len == 1))) && cond (k == 3) (ident nm) (nm == []))
mutual
def pf : Ty → Int → Int → Bool × Int
 | .mk k nm ks, d, c => cond ((decide (c + 1 ≤ 16) && decide (d ≤ 6)) && headT k nm ks.length d) (pfs ks (d + 1) (c + 1)) (false, c + 1)
def pfs : List Ty → Int → Int → Bool × Int
 | [], _, c => (true, c)
 | t :: ts, d, c => cond (pf t d c).1 (pfs ts d (pf t d c).2) (false, (pf t d c).2)
end
mutual
theorem pf_le : ∀ (t : Ty) (d c : Int), (pf t d c).1 = true → c < (pf t d c).2 ∧ (pf t d c).2 ≤ 16
 | .mk k nm ks, d, c, h => by
  simp only [pf] at h ⊢
  cases hb : ((decide (c + 1 ≤ 16) && decide (d ≤ 6)) && headT k nm ks.length d) with
  | false => rw [hb] at h; cases h
  | true =>
   rw [hb] at h
   simp only [cond_true] at h ⊢
   simp only [Bool.and_eq_true, decide_eq_true_eq] at hb
   have := pfs_le ks (d + 1) (c + 1) h
   omega
theorem pfs_le : ∀ (ts : List Ty) (d c : Int), (pfs ts d c).1 = true → c ≤ (pfs ts d c).2 ∧ (c ≤ 16 → (pfs ts d c).2 ≤ 16)
 | [], _, c, _ => by simp [pfs]
 | t :: ts, d, c, h => by
  simp only [pfs] at h ⊢
  cases hb : (pf t d c).1 with
  | false => rw [hb] at h; cases h
  | true =>
   rw [hb] at h
   simp only [cond_true] at h ⊢
   have h1 := pf_le t d c hb
   have h2 := pfs_le ts d _ h
   exact ⟨by omega, fun _ => h2.2 h1.2⟩
end
theorem enter_eq (n : Nat) (c d : Int) (h0 : 0 ≤ c) (h1 : c ≤ 16) : term_measure_enter n c 16 6 d = some (decide (c + 1 ≤ 16) && decide (d ≤ 6), c + 1) := by
 unfold term_measure_enter
 rw [wrap64 (by omega) (by omega)]
 cases decide (c + 1 ≤ 16) <;> rfl
def FitE (t : Ty) : Prop := ∀ d c : Int, 1 ≤ d → d ≤ 7 → 0 ≤ c → c ≤ 16 → Ev (fun n => term_measure_typeFits n c 16 6 t d (decide (1 < d))) (pf t d c)
theorem pfs_run (d : Int) : ∀ (ts : List Ty) (i c : Int), 0 ≤ i → (∃ j, 0 ≤ j ∧ (pfs ts d c).1 = false ∧ runI (τ := Int) (fun i x s => cond (!(pf x d s).1) (.rt (i, (pf x d s).2)) (.nx (pf x d s).2)) (fun s => s) i ts c = .rt (j, (pfs ts d c).2)) ∨ ((pfs ts d c).1 = true ∧ runI (ρ := Int × Int) (fun i x s => cond (!(pf x d s).1) (.rt (i, (pf x d s).2)) (.nx (pf x d s).2)) (fun s => s) i ts c = .nx (pfs ts d c).2)
 | [], i, c, _ => .inr ⟨rfl, rfl⟩
 | t :: ts, i, c, hi => by
  simp only [pfs, runI]
  cases hb : (pf t d c).1 with
  | false => exact .inl ⟨i, hi, rfl, rfl⟩
  | true => exact pfs_run d ts (i + 1) _ (by omega)
theorem fits_kids (ts : List Ty) (h : ∀ t ∈ ts, FitE t) (d c : Int) (hd : 1 ≤ d) (hd6 : d ≤ 6) (h0 : 0 ≤ c) (h1 : c ≤ 16) : Ev (fun n => slices_ContainsFunc_Type n ts c 16 6 d) (!(pfs ts (d + 1) c).1, (pfs ts (d + 1) c).2) := by
 refine Ev.succ ?_
 show Ev (fun n => slices_ContainsFunc_Type_body n _ _ _ _ ts c 16 6 d) _
 unfold slices_ContainsFunc_Type_body
 have hloop := loopEvI ts (fun n k i s => slices_IndexFunc_Type_L0 n (fun p0 p1 p2 p3 p4 => slices_IndexFunc_Type n p0 p1 p2 p3 p4) (fun p0 p1 p2 p3 p4 => slices_ContainsFunc_Type n p0 p1 p2 p3 p4) (fun p0 p1 p2 p3 p4 p5 => term_measure_typeFits n p0 p1 p2 p3 p4 p5) (fun p0 p1 p2 p3 p4 => term_measure_typeFits_1 n p0 p1 p2 p3 p4) ts 16 6 d k (i, s))
  (fun n i x s => (term_measure_typeFits_1 n x s 16 6 d).bind fun x2 => cond x2.1 (some (.rt (i, x2.2))) (some (.nx x2.2))) (fun i x s => cond (!(pf x (d + 1) s).1) (.rt (i, (pf x (d + 1) s).2)) (.nx (pf x (d + 1) s).2)) (fun s => s) (fun _ _ s => 0 ≤ s ∧ s ≤ 16)
  (fun n k i s => by
   show cond _ _ _ = _
   congr 1
   congr 1
   funext x
   dsimp only
   cases term_measure_typeFits_1 n x s 16 6 d with
   | none => rfl
   | some b => obtain ⟨b, e⟩ := b; cases b <;> rfl)
  (fun i x suf s hx hs => ⟨by
   have hfit : Ev (fun n => term_measure_typeFits_1 n x s 16 6 d) (!(pf x (d + 1) s).1, (pf x (d + 1) s).2) := by
    refine Ev.succ ?_
    show Ev (fun n => term_measure_typeFits_1_body n _ _ _ _ x s 16 6 d) _
    unfold term_measure_typeFits_1_body
    have := h x hx (d + 1) s (by omega) (by omega) hs.1 hs.2
    rw [decide_eq_true (show 1 < d + 1 by omega)] at this
    rw [wrap64 (by omega) (by omega)]
    exact Ev.bind this (Ev.ret _)
   refine Ev.bind hfit ?_
   cases (pf x (d + 1) s).1
   ·exact Ev.ret _
   ·exact Ev.ret _, fun s' he => by
    cases hb : (pf x (d + 1) s).1 with
    | false => rw [hb] at he; cases he
    | true =>
     rw [hb] at he
     simp only [Bool.not_true, cond_false, LR.nx.injEq] at he
     have := pf_le x (d + 1) s hb
     omega⟩) (s0 := c) ⟨h0, h1⟩
 rcases pfs_run (d + 1) ts 0 c (Int.le_refl _) with ⟨j, hj, hf, hr⟩ | ⟨ht, hr⟩
 ·rw [hr] at hloop
  refine Ev.bind (a := (j, (pfs ts (d + 1) c).2)) (Ev.succ ?_) ?_
  ·show Ev (fun n => slices_IndexFunc_Type_body n _ _ _ _ ts c 16 6 d) _
   unfold slices_IndexFunc_Type_body
   exact Ev.bind hloop (Ev.ret _)
  ·rw [hf]
   simp only [decide_eq_true hj]
   exact Ev.ret _
 ·rw [hr] at hloop
  refine Ev.bind (a := (-1, (pfs ts (d + 1) c).2)) (Ev.succ ?_) ?_
  ·show Ev (fun n => slices_IndexFunc_Type_body n _ _ _ _ ts c 16 6 d) _
   unfold slices_IndexFunc_Type_body
   exact Ev.bind hloop (Ev.ret _)
  ·rw [ht]
   exact Ev.ret _
theorem len_ne (len : Nat) (m : Nat) : (((len : Int) != (m : Int))) = !(len == m) := by
 rw [bne]
 congr 1
 by_cases h : len = m
 ·subst h; simp
 ·rw [beq_false_of_ne h, beq_false_of_ne (by omega)]
theorem fits : ∀ t : Ty, FitE t := Ty.ind fun k nm ks ih d c hd hd7 h0 h1 => by
 refine Ev.succ ?_
 show Ev (fun n => term_measure_typeFits_body n _ _ _ _ c 16 6 (.mk k nm ks) d (decide (1 < d))) _
 unfold term_measure_typeFits_body
 simp only [enter_eq _ c d h0 h1, Option.bind_some, pf, Ty.kind, Ty.name, Ty.kids]
 cases hb : (decide (c + 1 ≤ 16) && decide (d ≤ 6)) with
 | false => exact Ev.ret _
 | true =>
  simp only [Bool.and_eq_true, decide_eq_true_eq] at hb
  have hk := fits_kids ks ih d (c + 1) hd hb.2 (by omega) hb.1
  simp only [Bool.not_true, cond_false, Bool.true_and]
  -- the end: the number of kids, the name, the kids
  have hend : ∀ m : Nat, Ev (fun n => (((cond ((ks.length : Int) != (m : Int)) (some true) (cond (k != 3) (some (!(nm == ([] : Str)))) (some false))) : Option Bool).bind fun (s2 : Bool) => (cond s2 (some (false, c + 1)) ((slices_ContainsFunc_Type n ks (c + 1) 16 6 d).bind fun (x2 : Bool × Int) => some ((!x2.1), x2.2)))))
    (cond ((ks.length == m) && cond (k == 3) true (nm == [])) (pfs ks (d + 1) (c + 1)) (false, c + 1)) := fun m => by
   rw [len_ne]
   cases ks.length == m with
   | false => exact Ev.ret _
   | true =>
    simp only [Bool.not_true, cond_false, Bool.true_and, bne]
    have hkids : Ev (fun n => (slices_ContainsFunc_Type n ks (c + 1) 16 6 d).bind fun (x2 : Bool × Int) => some ((!x2.1), x2.2)) (pfs ks (d + 1) (c + 1)) := by
     refine Ev.bind hk ?_
     simp only [Bool.not_not]
     exact Ev.ret _
    cases k == 3 with
    | true => exact hkids
    | false =>
     simp only [Bool.not_false, cond_true, Option.bind_some, cond_false]
     cases nm == ([] : Str) with
     | false => exact Ev.ret _
     | true => exact hkids
  by_cases e1 : k = 1
  ·subst e1
   have := hend 0
   simpa [headT] using this
  by_cases e2 : k = 2
  ·subst e2
   cases hf : decide (1 < d) with
   | true =>
    have : headT 2 nm ks.length d = false := by simp [headT, hf]
    simp only [this, cond_false]
    exact Ev.of fun n => by simp
   | false =>
    have := hend 0
    simpa [headT, hf] using this
  by_cases e3 : k = 3
  ·subst e3
   simp only [show ((3 : Int) == 1) = false from rfl, show ((3 : Int) == 2) = false from rfl, show ((3 : Int) == 3) = true from rfl, cond_false, cond_true]
   refine Ev.bind (a := cond (ident nm) (.nx 0) (.rt (false, c + 1))) (Ev.bind (term_Identifier_ev nm) ?_) ?_
   ·cases ident nm
    ·exact Ev.ret _
    ·exact Ev.ret _
   ·cases hi : ident nm with
    | false =>
     have : headT 3 nm ks.length d = false := by simp [headT, hi]
     rw [this]
     exact Ev.ret _
    | true =>
     have := hend 0
     simpa [headT, hi] using this
  by_cases e4 : k = 4
  ·subst e4
   have := hend 2
   simpa [headT] using this
  by_cases e5 : k = 5
  ·subst e5
   have := hend 1
   simpa [headT] using this
  ·have : headT k nm ks.length d = false := by simp [headT, e1, e2, e3, e4, e5]
   rw [this]
   refine Ev.of fun n => ?_
   have b1 := beq_false_of_ne e1
   have b2 := beq_false_of_ne e2
   have b3 := beq_false_of_ne e3
   have b4 := beq_false_of_ne e4
   have b5 := beq_false_of_ne e5
   simp only [b1, b2, b3, b4, b5, cond_false, Option.bind_some, LR.el]
def validT (t : Ty) : Bool := (pf t 1 0).1
theorem term_ValidType_ev (t : Ty) : Ev (fun n => term_ValidType n t) (validT t) := by
 unfold term_ValidType
 have := fits t 1 0 (by omega) (by omega) (by omega) (by omega)
 rw [show decide ((1 : Int) < 1) = false from rfl] at this
 exact Ev.bind this (Ev.ret _)
def pt (t : Ty) (d c : Int) : Int := cond (pf t d c).1 (pf t d c).2 (-1)
def TypedE (t : Ty) : Prop := ∀ d c : Int, 1 ≤ d → d ≤ 7 → 0 ≤ c → c ≤ 16 → Ev (fun n => R1_typed n t d c) (pt t d c)
theorem pts_run (d : Int) : ∀ (ts : List Ty) (c : Int), 0 ≤ c → runL (τ := Int) (fun x s => cond (decide (pt x d s < 0)) (.rt (-1)) (.nx (pt x d s))) (fun s => s) ts c = cond (pfs ts d c).1 (.nx (pfs ts d c).2) (.rt (-1))
 | [], c, _ => rfl
 | t :: ts, c, h0 => by
  simp only [pfs, runL]
  by_cases hb : (pf t d c).1 = true
  ·have h1 := pf_le t d c hb
   have h2 : pt t d c = (pf t d c).2 := by simp only [pt, hb, cond_true]
   have h3 : decide ((pf t d c).2 < 0) = false := decide_eq_false (by omega)
   simp only [h2, h3, hb, cond_true, cond_false]
   exact pts_run d ts (pf t d c).2 (by omega)
  ·have hb' : (pf t d c).1 = false := by simpa using hb
   have h2 : pt t d c = -1 := by simp only [pt, hb', cond_false]
   have h3 : decide (pt t d c < 0) = true := decide_eq_true (by omega)
   simp only [h3, hb', cond_true, cond_false]
theorem typed : ∀ t : Ty, TypedE t := Ty.ind fun k nm ks ih d c hd hd7 h0 h1 => by
 refine Ev.succ ?_
 show Ev (fun n => R1_typed_body n _ (.mk k nm ks) d c) _
 unfold R1_typed_body
 simp only [pt, pf, Ty.kind, Ty.name, Ty.kids]
 rw [wrap64 (by omega) (by omega)]
 by_cases hd6 : d ≤ 6
 case neg =>
  rw [decide_eq_true (show 6 < d by omega), decide_eq_false hd6]
  simp only [Bool.and_false, Bool.false_and, cond_false]
  exact Ev.ret _
 by_cases hc : c + 1 ≤ 16
 case neg =>
  rw [decide_eq_false (show ¬ 6 < d by omega), decide_eq_true (show 16 < c + 1 by omega), decide_eq_false hc]
  simp only [Bool.false_and, cond_false, cond_true]
  exact Ev.ret _
 rw [decide_eq_false (show ¬ 6 < d by omega), decide_eq_false (show ¬ 16 < c + 1 by omega), decide_eq_true hd6, decide_eq_true hc]
 simp only [cond_false, Bool.true_and]
 have hloop := loopEv ks (fun n k' i s => R1_typed_L0 n (fun p0 p1 p2 => R1_typed n p0 p1 p2) (.mk k nm ks) d k' (s, i)) (fun n x s => (R1_typed n x (IntKind.wrap .i64 (d + 1)) s).bind fun x2 => cond (decide (x2 < 0)) (some (.rt (-1))) (some (.nx x2)))
  (fun x s => cond (decide (pt x (d + 1) s < 0)) (.rt (-1)) (.nx (pt x (d + 1) s))) (fun s => s) (fun _ s => 0 ≤ s ∧ s ≤ 16)
  (fun n k' i s => by
   show cond _ _ _ = _
   congr 1
   show (idx ks i).bind _ = _
   congr 1
   funext x
   dsimp only
   cases R1_typed n x (IntKind.wrap .i64 (d + 1)) s with
   | none => rfl
   | some b => simp only [Option.bind_some]; cases decide (b < 0) <;> rfl)
  (fun x suf s hx hs => ⟨by
   rw [wrap64 (by omega) (by omega)]
   refine Ev.bind (ih x hx (d + 1) s (by omega) (by omega) hs.1 hs.2) ?_
   cases decide (pt x (d + 1) s < 0)
   ·exact Ev.ret _
   ·exact Ev.ret _, fun s' he => by
    cases hb : decide (pt x (d + 1) s < 0) with
    | true => rw [hb] at he; cases he
    | false =>
     rw [hb] at he
     simp only [cond_false, LR.nx.injEq] at he
     have hneg : ¬ pt x (d + 1) s < 0 := of_decide_eq_false hb
     subst he
     unfold pt at hneg ⊢
     cases hb2 : (pf x (d + 1) s).1 with
     | false => rw [hb2] at hneg; simp at hneg
     | true => have := pf_le x (d + 1) s hb2; simp only [cond_true]; omega⟩) (s0 := c + 1) ⟨by omega, hc⟩
 rw [pts_run _ _ _ (by omega)] at hloop
 have hkids : Ev (fun n => (R1_typed_L0 n (fun p0 p1 p2 => R1_typed n p0 p1 p2) (.mk k nm ks) d n (c + 1, 0)).bind (LR.el (fun (s5 : Int) => some s5) (fun r => some r))) (cond (pfs ks (d + 1) (c + 1)).1 (pfs ks (d + 1) (c + 1)).2 (-1)) := by
  refine Ev.bind hloop ?_
  cases (pfs ks (d + 1) (c + 1)).1
  ·exact Ev.ret _
  ·exact Ev.ret _
 have hend : ∀ m : Nat, Ev (fun n => (((cond ((ks.length : Int) != (m : Int)) (some true) (cond (k == 3) ((R1_Identifier n nm).bind fun (x3 : Bool) => (cond (!x3) (some true) (cond (k != 3) (some (!(nm == ([] : Str)))) (some false)))) (cond (k != 3) (some (!(nm == ([] : Str)))) (some false)))) : Option Bool).bind fun (s3 : Bool) => (cond s3 (some (-1)) ((R1_typed_L0 n (fun p0 p1 p2 => R1_typed n p0 p1 p2) (.mk k nm ks) d n (c + 1, 0)).bind (LR.el (fun (s5 : Int) => some s5) (fun r => some r))))))
   (cond ((ks.length == m) && cond (k == 3) (ident nm) (nm == [])) (cond (pfs ks (d + 1) (c + 1)).1 (pfs ks (d + 1) (c + 1)).2 (-1)) (-1)) := fun m => by
  rw [len_ne]
  cases ks.length == m with
  | false => exact Ev.ret _
  | true =>
   simp only [Bool.not_true, cond_false, Bool.true_and, bne]
   cases k == 3 with
   | true =>
    simp only [cond_true, Bool.not_true, cond_false]
    refine Ev.bind (a := !(ident nm)) (Ev.bind (R1_Identifier_ev nm) ?_) ?_
    ·cases ident nm
     ·exact Ev.ret _
     ·exact Ev.ret _
    ·cases ident nm
     ·exact Ev.ret _
     ·exact hkids
   | false =>
    simp only [cond_false, Bool.not_false, cond_true, Option.bind_some]
    cases nm == ([] : Str) with
    | false => exact Ev.ret _
    | true => exact hkids
 have hpair : ∀ b : Bool, (cond (cond b (pfs ks (d + 1) (c + 1)) (false, c + 1)).1 (cond b (pfs ks (d + 1) (c + 1)) (false, c + 1)).2 (-1) : Int) = cond b (cond (pfs ks (d + 1) (c + 1)).1 (pfs ks (d + 1) (c + 1)).2 (-1)) (-1) := fun b => by cases b <;> rfl
 rw [hpair]
 by_cases e1 : k = 1
 ·subst e1
  have := hend 0
  simpa [headT] using this
 by_cases e2 : k = 2
 ·subst e2
  cases hf : decide (1 < d) with
  | true =>
   have : headT 2 nm ks.length d = false := by simp [headT, hf]
   rw [this]
   exact Ev.of fun n => by simp
  | false =>
   have := hend 0
   simpa [headT, hf] using this
 by_cases e3 : k = 3
 ·subst e3
  have := hend 0
  simpa [headT] using this
 by_cases e4 : k = 4
 ·subst e4
  have := hend 2
  simpa [headT] using this
 by_cases e5 : k = 5
 ·subst e5
  have := hend 1
  simpa [headT] using this
 ·have : headT k nm ks.length d = false := by simp [headT, e1, e2, e3, e4, e5]
  rw [this]
  refine Ev.of fun n => ?_
  have b1 := beq_false_of_ne e1
  have b2 := beq_false_of_ne e2
  have b3 := beq_false_of_ne e3
  have b4 := beq_false_of_ne e4
  have b5 := beq_false_of_ne e5
  simp only [b1, b2, b3, b4, b5, cond_false, Option.bind_some, LR.el]
theorem R1_ValidType_ev (t : Ty) : Ev (fun n => R1_ValidType n t) (validT t) := by
 unfold R1_ValidType
 refine Ev.bind (typed t 1 0 (by omega) (by omega) (by omega) (by omega)) ?_
 unfold pt validT
 cases hb : (pf t 1 0).1 with
 | false => exact Ev.ret _
 | true =>
  have := pf_le t 1 0 hb
  simp only [cond_true]
  rw [decide_eq_true (by omega)]
  exact Ev.ret _
end Abs
end Go.Proofs.YtiiaccpcoclklaaGreat
namespace Go.Proofs.YtiiaccpcoclklaaGreat
namespace Abs
open Go
theorem runL_fold {α σ τ ρ : Type} (f : α → σ → σ) (fin : σ → τ) : ∀ (l : List α) (s : σ), runL (ρ := ρ) (fun x s => .nx (f x s)) fin l s = .nx (fin (l.foldl (fun s x => f x s) s))
 | [], _ => rfl
 | x :: xs, s => runL_fold f fin xs (f x s)
theorem loopFold {α σ τ ρ : Type} (l : List α) (L : Nat → Nat → Int → σ → Option (LR τ ρ)) (step : Nat → α → σ → Option σ) (f : α → σ → σ) (fin : σ → τ) (I : List α → σ → Prop)
  (hL : ∀ n k i s, L n (k + 1) i s = cond (decide (i < (l.length : Int))) ((idx l i).bind fun x => (step n x s).bind fun s' => L n k (i + 1) s') (some (.nx (fin s))))
  (hI : ∀ x suf s, x ∈ l → I (x :: suf) s → Ev (fun n => step n x s) (f x s) ∧ I suf (f x s)) {s0 : σ} (h0 : I l s0) : Ev (fun n => L n n 0 s0) (.nx (fin (l.foldl (fun s x => f x s) s0))) := by
 rw [← runL_fold f fin]
 refine loopEv l L (fun n x s => (step n x s).bind fun s' => some (.nx s')) (fun x s => .nx (f x s)) fin I (fun n k i s => ?_) (fun x suf s hx hs => ?_) h0
 ·rw [hL]
  congr 1
  congr 1
  funext x
  cases step n x s <;> rfl
 ·obtain ⟨h1, h2⟩ := hI x suf s hx hs
  exact ⟨Ev.bind h1 (Ev.ret _), fun s' h => by cases h; exact h2⟩
theorem loopStopR {α ρ : Type} (l : List α) (L : Nat → Nat → Int → Option (LR Unit ρ)) (step : Nat → α → Option (LR Unit ρ)) (p : α → Bool) (r : ρ)
  (hL : ∀ n k i, L n (k + 1) i = cond (decide (i < (l.length : Int))) ((idx l i).bind fun x => (step n x).bind (LR.el (fun _ => L n k (i + 1)) (fun r => some (.rt r)))) (some (.nx ())))
  (hp : ∀ x ∈ l, Ev (fun n => step n x) (cond (p x) (.rt r) (.nx ()))) : Ev (fun n => L n n 0) (cond (l.any p) (.rt r) (.nx ())) := by
 have := loopEv l (fun n k i (_ : Unit) => L n k i) (fun n x _ => step n x) (fun x _ => cond (p x) (.rt r) (.nx ())) (fun _ => ()) (fun _ _ => True)
  (fun n k i s => by rw [hL]) (fun x suf s hx _ => ⟨hp x hx, fun _ _ => trivial⟩) (s0 := ()) trivial
 rw [runL_stop] at this
 exact this
theorem app_eq {α : Type} {b : Nat} {l ys : List α} (h : l.length + ys.length ≤ 1000000) (hb : b ≤ 1000) : app b l ys = some (l ++ ys) := by
 unfold app
 have := Nat.mul_le_mul h hb
 rw [if_pos ⟨by omega, by omega⟩]
theorem foldl_snoc {α : Type} : ∀ (l s : List α), l.foldl (fun s x => s ++ [x]) s = s ++ l
 | [], s => by simp
 | x :: l, s => by simp [foldl_snoc l]
theorem mfind_nil {α : Type} (k : Str) : mfind ([] : List (Str × α)) k = none := rfl
theorem mfind_cons {α : Type} (p : Str × α) (m : List (Str × α)) (k : Str) : mfind (p :: m) k = if p.1 == k then some p.2 else mfind m k := by
 unfold mfind
 simp only [List.find?_cons]
 cases p.1 == k <;> rfl
theorem mfind_put {α : Type} (m : List (Str × α)) (k : Str) (v : α) (k' : Str) : mfind (mputL m k v) k' = if k == k' then some v else mfind m k' := by
 induction m with
 | nil => rw [mputL, mfind_cons]
 | cons p m ih =>
  simp only [mputL]
  by_cases h : (p.1 == k) = true
  ·have e : p.1 = k := by simpa using h
   rw [if_pos h, mfind_cons, mfind_cons, e]
   by_cases hk : (k == k') = true
   ·rw [if_pos hk, if_pos hk]
   ·rw [if_neg hk, if_neg hk, if_neg hk]
  ·rw [if_neg h, mfind_cons, ih, mfind_cons]
   by_cases hp : (p.1 == k') = true
   ·rw [if_pos hp, if_pos hp, if_neg]
    intro h2
    apply h
    have e1 : p.1 = k' := by simpa using hp
    have e2 : k = k' := by simpa using h2
    simp [e1, e2]
   ·rw [if_neg hp, if_neg hp]
theorem mput_len {α : Type} (m : List (Str × α)) (k : Str) (v : α) : (mputL m k v).length ≤ m.length + 1 := by
 induction m with
 | nil => simp [mputL]
 | cons p m ih =>
  simp only [mputL]
  split
  ·simp
  ·simp only [List.length_cons]; omega
theorem mput_eq {α : Type} {m : List (Str × α)} (h : m.length ≤ 1000000) (k : Str) (v : α) : mput m k v = some (mputL m k v) := by
 unfold mput
 rw [if_pos (by omega)]
theorem mem_keys {α : Type} (m : List (Str × α)) (k : Str) : k ∈ m.map (·.1) ↔ ∃ v, mfind m k = some v := by
 induction m with
 | nil => simp [mfind_nil]
 | cons p m ih =>
  rw [mfind_cons]
  simp only [List.map_cons, List.mem_cons, ih]
  by_cases h : (p.1 == k) = true
  ·rw [if_pos h]
   have e : p.1 = k := by simpa using h
   exact ⟨fun _ => ⟨_, rfl⟩, fun _ => .inl e.symm⟩
  ·rw [if_neg h]
   have e : k ≠ p.1 := fun e => h (by simp [e])
   simp [e]
def putAll {α : Type} (l : List (Str × α)) (m : List (Str × α)) : List (Str × α) := l.foldl (fun m p => mputL m p.1 p.2) m
theorem putAll_len {α : Type} (l m : List (Str × α)) : (putAll l m).length ≤ m.length + l.length := by
 induction l generalizing m with
 | nil => simp [putAll]
 | cons p l ih =>
  have h1 := ih (mputL m p.1 p.2)
  have h2 := mput_len m p.1 p.2
  simp only [putAll, List.foldl_cons, List.length_cons] at h1 ⊢
  omega
theorem putAll_app {α : Type} (l l' m : List (Str × α)) : putAll (l ++ l') m = putAll l' (putAll l m) := by simp [putAll]
theorem mem_putAll {α : Type} (l m : List (Str × α)) (k : Str) : k ∈ (putAll l m).map (·.1) ↔ k ∈ m.map (·.1) ∨ k ∈ l.map (·.1) := by
 induction l generalizing m with
 | nil => simp [putAll]
 | cons p l ih =>
  have h1 := ih (mputL m p.1 p.2)
  have h2 : k ∈ (mputL m p.1 p.2).map (·.1) ↔ k ∈ m.map (·.1) ∨ k = p.1 := by
   rw [mem_keys, mem_keys, mfind_put]
   by_cases h : (p.1 == k) = true
   ·rw [if_pos h]
    have e : p.1 = k := by simpa using h
    exact ⟨fun _ => .inr e.symm, fun _ => ⟨_, rfl⟩⟩
   ·rw [if_neg h]
    have e : k ≠ p.1 := fun e => h (by simp [e])
    simp [e]
  rw [h2] at h1
  simp only [putAll, List.foldl_cons, List.map_cons, List.mem_cons] at h1 ⊢
  rw [h1, or_assoc]
theorem mfind_putAll {α : Type} (l m : List (Str × α)) (k : Str) (hn : (l.map (·.1)).Nodup) : mfind (putAll l m) k = (match mfind l k with | some v => some v | none => mfind m k) := by
 induction l generalizing m with
 | nil => rfl
 | cons p l ih =>
  rw [List.map_cons, List.nodup_cons] at hn
  have h1 := ih (mputL m p.1 p.2) hn.2
  simp only [putAll, List.foldl_cons] at h1 ⊢
  rw [h1, mfind_put, mfind_cons]
  by_cases h : (p.1 == k) = true
  ·rw [if_pos h, if_pos h]
   have e : p.1 = k := by simpa using h
   have h3 : mfind l k = none := by
    cases hm : mfind l k with
    | none => rfl
    | some v => exact absurd ((mem_keys l k).2 ⟨v, hm⟩) (e ▸ hn.1)
   rw [h3]
  ·rw [if_neg h, if_neg h]
theorem mfind_mem {α : Type} (l : List (Str × α)) (k : Str) (v : α) (hn : (l.map (·.1)).Nodup) : mfind l k = some v ↔ (k, v) ∈ l := by
 induction l with
 | nil => simp [mfind_nil]
 | cons p l ih =>
  rw [List.map_cons, List.nodup_cons] at hn
  rw [mfind_cons, List.mem_cons]
  by_cases h : (p.1 == k) = true
  ·rw [if_pos h]
   have e : p.1 = k := by simpa using h
   constructor
   ·intro h2
    cases h2
    exact .inl (by rw [← e])
   ·rintro (h2 | h2)
    ·rw [← h2]
    ·exact absurd (List.mem_map.2 ⟨_, h2, rfl⟩) (e ▸ hn.1)
  ·rw [if_neg h, ih hn.2]
   constructor
   ·exact .inr
   ·rintro (h2 | h2)
    ·exact absurd (by rw [← h2]; simp) h
    ·exact h2
theorem mfind_perm {α : Type} {l l' : List (Str × α)} (hp : l.Perm l') (hn : (l.map (·.1)).Nodup) (k : Str) : mfind l k = mfind l' k := by
 have hn' : (l'.map (·.1)).Nodup := (hp.map _).nodup_iff.1 hn
 cases h : mfind l k with
 | some v =>
  rw [mfind_mem _ _ _ hn] at h
  exact ((mfind_mem _ _ _ hn').2 (hp.mem_iff.1 h)).symm
 | none =>
  cases h' : mfind l' k with
  | none => rfl
  | some v =>
   rw [mfind_mem _ _ _ hn'] at h'
   rw [(mfind_mem _ _ _ hn).2 (hp.mem_iff.2 h')] at h
   cases h
mutual
def hasK (q : Int) : Ty → Bool
 | .mk k _ ks => k == q || hasKs q ks
def hasKs (q : Int) : List Ty → Bool
 | [] => false
 | t :: ts => hasK q t || hasKs q ts
end
theorem hasKs_any (q : Int) : ∀ ts, hasKs q ts = ts.any (hasK q)
 | [] => rfl
 | t :: ts => by simp [hasKs, hasKs_any q ts]
theorem contains_ev (q : Int) : ∀ t : Ty, Ev (fun n => typing_contains n t q) (hasK q t) := Ty.ind fun k nm ks ih => by
 refine Ev.succ ?_
 show Ev (fun n => typing_contains_body n _ _ _ _ (.mk k nm ks) q) _
 unfold typing_contains_body
 simp only [Ty.kind, Ty.kids, hasK, hasKs_any]
 have hk : Ev (fun n => slices_ContainsFunc_Type_1 n ks q) (ks.any (hasK q)) := by
  refine Ev.succ ?_
  show Ev (fun n => slices_ContainsFunc_Type_1_body n _ _ _ _ ks q) _
  unfold slices_ContainsFunc_Type_1_body
  refine Ev.bind (a := findI (hasK q) 0 ks) (Ev.succ ?_) ?_
  ·show Ev (fun n => slices_IndexFunc_Type_1_body n _ _ _ _ ks q) _
   unfold slices_IndexFunc_Type_1_body
   refine loopFind ks (fun n k i => slices_IndexFunc_Type_1_L0 n _ _ _ (fun p0 p1 => typing_contains_1 n p0 p1) ks q k i) (fun n x => typing_contains_1 n x q) (hasK q) (fun n k i => rfl) (fun x hx => ?_)
   refine Ev.succ ?_
   show Ev (fun n => typing_contains_1_body n _ _ _ _ x q) _
   unfold typing_contains_1_body
   exact Ev.bind (ih x hx) (Ev.ret _)
  ·rw [findI_ge _ _ _ (Int.le_refl _)]; exact Ev.ret _
 cases hq : (k == q)
 ·exact Ev.bind (Ev.bind hk (Ev.ret _)) (Ev.ret _)
 ·exact Ev.bind (Ev.ret _) (Ev.ret _)
theorem holdsBool_ev : ∀ t : Ty, Ev (fun n => R2_holdsBool n t) (hasK 2 t) := Ty.ind fun k nm ks ih => by
 refine Ev.succ ?_
 show Ev (fun n => R2_holdsBool_body n _ (.mk k nm ks)) _
 unfold R2_holdsBool_body
 simp only [Ty.kind, hasK, hasKs_any]
 cases hq : (k == 2)
 ·have h := loopStop ks (fun n k' i => R2_holdsBool_L0 n (fun p0 => R2_holdsBool n p0) (.mk k nm ks) k' i) (fun n x => R2_holdsBool n x) (hasK 2) true (fun n k i => rfl) ih
  simp only [cond_false, Bool.false_or]
  refine Ev.bind h ?_
  cases ks.any (hasK 2)
  ·exact Ev.ret _
  ·exact Ev.ret _
 ·exact Ev.ret _
mutual
def carsT : Ty → List Str
 | .mk k nm ks => cond (k == 3) [nm] (carsTs ks)
def carsTs : List Ty → List Str
 | [] => []
 | t :: ts => carsT t ++ carsTs ts
end
mutual
def okT : Ty → Bool
 | .mk k _ ks => (decide (ks.length ≤ 2) && (k != 3 || ks.length == 0)) && okTs ks
def okTs : List Ty → Bool
 | [] => true
 | t :: ts => okT t && okTs ts
end
theorem okTs_mem : ∀ {ts : List Ty}, okTs ts = true → ∀ t ∈ ts, okT t = true
 | [], _, t, h => by cases h
 | u :: ts, h, t, ht => by
  simp only [okTs, Bool.and_eq_true] at h
  rcases List.mem_cons.1 ht with rfl | ht
  ·exact h.1
  ·exact okTs_mem h.2 t ht
theorem carsTs_mem : ∀ {ts : List Ty} {t : Ty}, t ∈ ts → (carsT t).length ≤ (carsTs ts).length
 | [], t, h => by cases h
 | u :: ts, t, ht => by
  simp only [carsTs, List.length_append]
  rcases List.mem_cons.1 ht with rfl | ht
  ·omega
  ·have := carsTs_mem ht; omega
theorem head_ok {k : Int} {nm : Str} {len : Nat} {d : Int} (h : headT k nm len d = true) : len ≤ 2 ∧ (k = 3 → len = 0) := by
 unfold headT at h
 simp only [Bool.and_eq_true, Bool.or_eq_true, beq_iff_eq] at h
 obtain ⟨_, h, _⟩ := h
 rcases h with ⟨h1, h2⟩ | ⟨h1, h2⟩ | ⟨h1, h2⟩ <;> omega
mutual
theorem pf_ok : ∀ (t : Ty) (d c : Int), (pf t d c).1 = true → okT t = true ∧ ((carsT t).length : Int) ≤ (pf t d c).2 - c
 | .mk k nm ks, d, c, h => by
  simp only [pf] at h ⊢
  cases hb : ((decide (c + 1 ≤ 16) && decide (d ≤ 6)) && headT k nm ks.length d) with
  | false => rw [hb] at h; cases h
  | true =>
   rw [hb] at h
   simp only [cond_true] at h ⊢
   simp only [Bool.and_eq_true] at hb
   have hh := head_ok hb.2
   have h1 := pfs_ok ks (d + 1) (c + 1) h
   have h2 := pfs_le ks (d + 1) (c + 1) h
   constructor
   ·simp only [okT, h1.1, Bool.and_true, Bool.and_eq_true, decide_eq_true_eq, Bool.or_eq_true, bne_iff_ne, beq_iff_eq]
    refine ⟨hh.1, ?_⟩
    by_cases e : k = 3
    ·exact .inr (hh.2 e)
    ·exact .inl e
   ·simp only [carsT]
    cases k == 3 with
    | true => simp only [cond_true, List.length_singleton]; omega
    | false => simp only [cond_false]; omega
theorem pfs_ok : ∀ (ts : List Ty) (d c : Int), (pfs ts d c).1 = true → okTs ts = true ∧ ((carsTs ts).length : Int) ≤ (pfs ts d c).2 - c
 | [], _, c, _ => by simp [pfs, okTs, carsTs]
 | t :: ts, d, c, h => by
  simp only [pfs] at h ⊢
  cases hb : (pf t d c).1 with
  | false => rw [hb] at h; cases h
  | true =>
   rw [hb] at h
   simp only [cond_true] at h ⊢
   have h1 := pf_ok t d c hb
   have h2 := pfs_ok ts d _ h
   simp only [okTs, h1.1, h2.1, Bool.and_true, carsTs, List.length_append]
   refine ⟨trivial, ?_⟩
   omega
end
theorem valid_ok {t : Ty} (h : validT t = true) : okT t = true ∧ (carsT t).length ≤ 16 := by
 have h1 := pf_ok t 1 0 h
 have h2 := pf_le t 1 0 h
 exact ⟨h1.1, by omega⟩
theorem R2_carriers_ev : ∀ t : Ty, okT t = true → (carsT t).length ≤ 16 → Ev (fun n => R2_carriers n t) (carsT t) := Ty.ind fun k nm ks ih hok hlen => by
 refine Ev.succ ?_
 show Ev (fun n => R2_carriers_body n _ (.mk k nm ks)) _
 unfold R2_carriers_body
 simp only [Ty.kind, Ty.name, carsT] at hlen ⊢
 simp only [okT, Bool.and_eq_true, decide_eq_true_eq] at hok
 cases hq : (k == 3) with
 | true => exact Ev.ret _
 | false =>
  rw [hq] at hlen
  simp only [cond_false] at hlen ⊢
  have h := loopFold ks (fun n k' i s => R2_carriers_L0 n (fun p0 => R2_carriers n p0) (.mk k nm ks) k' (s, i)) (fun n x s => (R2_carriers n x).bind fun x2 => app 16 s x2) (fun x s => s ++ carsT x) (fun s => s) (fun suf s => s.length + (carsTs suf).length ≤ 16)
   (fun n k' i s => by
    show cond _ _ _ = _
    congr 1
    show (idx ks i).bind _ = _
    congr 1
    funext x
    simp only [Option.bind_assoc])
   (fun x suf s hx hs => by
    simp only [carsTs, List.length_append] at hs
    refine ⟨Ev.bind (ih x hx (okTs_mem hok.2 x hx) (by have := carsTs_mem hx; omega)) ?_, ?_⟩
    ·rw [app_eq (by omega) (by omega)]; exact Ev.ret _
    ·simp only [List.length_append]; omega) (s0 := ([] : List Str)) (by simpa using hlen)
  have hf : ∀ (ts : List Ty) (s : List Str), ts.foldl (fun s x => s ++ carsT x) s = s ++ carsTs ts := by
   intro ts
   induction ts with
   | nil => intro s; simp [carsTs]
   | cons t ts iht => intro s; simp [carsTs, iht]
  rw [hf] at h
  exact Ev.bind h (Ev.ret _)
theorem collect_ev : ∀ t : Ty, okT t = true → ∀ m : List (Str × Bool), m.length + (carsT t).length ≤ 1000 → Ev (fun n => typing_collect n t m) (putAll ((carsT t).map fun s => (s, true)) m) := Ty.ind fun k nm ks ih hok m hlen => by
 refine Ev.succ ?_
 show Ev (fun n => typing_collect_body n _ (.mk k nm ks) m) _
 unfold typing_collect_body
 simp only [Ty.kind, Ty.name, carsT] at hlen ⊢
 simp only [okT, Bool.and_eq_true, decide_eq_true_eq, Bool.or_eq_true, beq_iff_eq, bne_iff_ne] at hok
 have hloop : ∀ (m : List (Str × Bool)), m.length + (carsTs ks).length ≤ 1000 → Ev (fun n => typing_collect_L0 n (fun p0 p1 => typing_collect n p0 p1) (.mk k nm ks) n (0, m)) (.nx (putAll ((carsTs ks).map fun s => (s, true)) m)) := fun m hm => by
  have h := loopFold ks (fun n k' i s => typing_collect_L0 n (fun p0 p1 => typing_collect n p0 p1) (.mk k nm ks) k' (i, s)) (fun n x s => typing_collect n x s) (fun x s => putAll ((carsT x).map fun s => (s, true)) s) (fun s => s) (fun suf s => s.length + (carsTs suf).length ≤ 1000)
   (fun n k' i s => rfl)
   (fun x suf s hx hs => by
    simp only [carsTs, List.length_append] at hs
    refine ⟨ih x hx (okTs_mem hok.2 x hx) s (by omega), ?_⟩
    have := putAll_len ((carsT x).map fun s => (s, true)) s
    simp only [List.length_map] at this
    omega) (s0 := m) hm
  have hf : ∀ (ts : List Ty) (s : List (Str × Bool)), ts.foldl (fun s x => putAll ((carsT x).map fun s => (s, true)) s) s = putAll ((carsTs ts).map fun s => (s, true)) s := by
   intro ts
   induction ts with
   | nil => intro s; rfl
   | cons t ts iht => intro s; simp only [List.foldl_cons, carsTs, List.map_append, putAll_app, iht]
  rw [hf] at h
  exact h
 cases hq : (k == 3) with
 | true =>
  have hk : k = 3 := by simpa using hq
  have hks : ks = [] := by
   rcases hok.1.2 with h | h
   ·exact absurd hk h
   ·exact List.length_eq_zero_iff.1 h
  rw [hq] at hlen
  simp only [cond_true, List.length_singleton] at hlen ⊢
  rw [mput_eq (by omega)]
  have hl := mput_len m nm true
  have := hloop (mputL m nm true) (by rw [hks]; simp only [carsTs, List.length_nil]; omega)
  rw [hks] at this ⊢
  simp only [Option.bind_some]
  exact Ev.bind this (Ev.ret _)
 | false =>
  rw [hq] at hlen
  simp only [cond_false, Option.bind_some] at hlen ⊢
  exact Ev.bind (hloop m hlen) (Ev.ret _)
theorem typing_Carriers_ev {t : Ty} (h : validT t = true) : Ev (fun n => typing_Carriers n t) (((putAll ((carsT t).map fun s => (s, true)) []).map (·.1)).mergeSort leS) := by
 unfold typing_Carriers
 refine Ev.bind (term_ValidType_ev t) ?_
 rw [h]
 obtain ⟨h1, h2⟩ := valid_ok h
 refine Ev.bind (collect_ev t h1 [] (by simp; omega)) ?_
 have := putAll_len ((carsT t).map fun s => (s, true)) []
 simp only [List.length_map, List.length_nil] at this
 unfold slices_Sorted_string
 rw [if_pos (by omega)]
 exact Ev.ret _
theorem Carriers_mem (t : Ty) (s : Str) : s ∈ ((putAll ((carsT t).map fun s => (s, true)) []).map (·.1)).mergeSort leS ↔ s ∈ carsT t := by
 rw [List.mem_mergeSort, mem_putAll]
 simp
theorem copyType_ev : ∀ t : Ty, okT t = true → Ev (fun n => typing_copyType n t) t := Ty.ind fun k nm ks ih hok => by
 refine Ev.succ ?_
 show Ev (fun n => typing_copyType_body n _ (.mk k nm ks)) _
 unfold typing_copyType_body
 simp only [Ty.kind, Ty.name]
 simp only [okT, Bool.and_eq_true, decide_eq_true_eq] at hok
 have h := loopFold ks (fun n k' i s => typing_copyType_L0 n (fun p0 => typing_copyType n p0) (.mk k nm ks) k' (i, s)) (fun n x s => (typing_copyType n x).bind fun x2 => app 48 s [x2]) (fun x s => s ++ [x]) (fun s => s) (fun suf s => s.length + suf.length ≤ 2)
  (fun n k' i s => by
   show cond _ _ _ = _
   congr 1
   show (idx ks i).bind _ = _
   congr 1
   funext x
   simp only [Option.bind_assoc])
  (fun x suf s hx hs => by
   simp only [List.length_cons] at hs
   refine ⟨Ev.bind (ih x hx (okTs_mem hok.2 x hx)) ?_, ?_⟩
   ·rw [app_eq (by simp only [List.length_singleton]; omega) (by omega)]; exact Ev.ret _
   ·simp only [List.length_append, List.length_singleton]; omega) (s0 := ([] : List Ty)) (by simpa using hok.1.1)
 rw [foldl_snoc] at h
 exact Ev.bind h (Ev.ret _)
theorem bne_self' {α : Type} [BEq α] [ReflBEq α] (a : α) : (a != a) = false := by simp [bne]
theorem any_ff {α : Type} (l : List α) : (l.any fun _ => false) = false := by induction l <;> simp_all
theorem SameType_ev : ∀ t : Ty, Ev (fun n => R1_SameType n t t) true := Ty.ind fun k nm ks ih => by
 refine Ev.succ ?_
 show Ev (fun n => R1_SameType_body n _ (.mk k nm ks) (.mk k nm ks)) _
 unfold R1_SameType_body
 simp only [bne_self', beq_self_eq_true, Bool.not_true, cond_false, Option.bind_some]
 have h := loopStop ks (fun n k' i => R1_SameType_L0 n (fun p0 p1 => R1_SameType n p0 p1) (.mk k nm ks) (.mk k nm ks) k' i) (fun n x => (R1_SameType n x x).bind fun b => some (!b)) (fun _ => false) false
  (fun n k' i => by
   show cond _ _ _ = _
   congr 1
   show (idx ks i).bind _ = _
   cases hx : idx ks i with
   | none => rfl
   | some x =>
    show ((idx ks i).bind _) = _
    rw [hx]
    simp only [Option.bind_some, Option.bind_assoc])
  (fun x hx => Ev.bind (ih x hx) (Ev.ret _))
 rw [any_ff] at h
 exact Ev.bind h (Ev.ret _)
end Abs
end Go.Proofs.YtiiaccpcoclklaaGreat

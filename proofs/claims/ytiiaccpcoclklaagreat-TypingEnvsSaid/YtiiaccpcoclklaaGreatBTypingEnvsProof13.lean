/-
  From what the claim's form reads of an argument to the abstract values: a datum of the program's types that can be read stands for a plain tree. Conditions: none; lemmas over any program, then at the program's types. The data of the program's types that can be read stand for plain trees: types, carriers, declarations, environments; the last step from a contract to a claim. Conditions: none. Closed facts of the program, each by the kernel. Conditions: none. Closed facts of TypingEnvs, each by the kernel. Conditions: none.
-/
import Derived.Test.YtiiaccpcoclklaaGreatBTypingEnvsProof5
import Derived.Test.YtiiaccpcoclklaaGreatRows
import Derived.Deep.Slices
import Derived.Deep.Strs
import Derived.ProofKit
import Derived.Below
import Derived.Carry
import Derived.JoinedOf
import Derived.KernelRfl
import Derived.Test.YtiiaccpcoclklaaGreatBTypingEnvsProof12
set_option linter.unusedSimpArgs false
set_option linter.unusedVariables false
namespace Go.Proofs.YtiiaccpcoclklaaGreat
namespace Abs
open Go Go.Proofs Go.Deep

/-- The cells cs stand for the abstract cells xs. -/
def CellsRel (w : World) (κ : Kap) (pv : Prv) (xs : List AV) (cs : List Value) : Prop := cs.length = xs.length ∧ ∀ j, j < xs.length → Rel w κ pv (xs.getD j .unk) (cs.getD j undef)

theorem CellsRel.one {w : World} {κ : Kap} {pv : Prv} {x : AV} {v : Value} (h : Rel w κ pv x v) : CellsRel w κ pv [x] [v] := ⟨rfl, fun j hj => by
  have : j = 0 := by simp at hj; omega
  subst this; exact h⟩
theorem CellsRel.app {w : World} {κ : Kap} {pv : Prv} {xs ys : List AV} {cs ds : List Value} (h : CellsRel w κ pv xs cs) (k : CellsRel w κ pv ys ds) : CellsRel w κ pv (xs ++ ys) (cs ++ ds) := by
  refine ⟨by simp [h.1, k.1], fun j hj => ?_⟩
  by_cases hx : j < xs.length
  · have e1 : (xs ++ ys).getD j .unk = xs.getD j .unk := by simp [List.getD, List.getElem?_append_left hx]
    have e2 : (cs ++ ds).getD j undef = cs.getD j undef := by simp [List.getD, List.getElem?_append_left (show j < cs.length by rw [h.1]; exact hx)]
    rw [e1, e2]; exact h.2 j hx
  · have e1 : (xs ++ ys).getD j .unk = ys.getD (j - xs.length) .unk := by simp [List.getD, List.getElem?_append_right (Nat.le_of_not_lt hx)]
    have e2 : (cs ++ ds).getD j undef = ds.getD (j - xs.length) undef := by simp [List.getD, List.getElem?_append_right (show cs.length ≤ j by rw [h.1]; omega), h.1]
    rw [e1, e2]; exact k.2 _ (by simp at hj; omega)
theorem CellsRel.split {w : World} {κ : Kap} {pv : Prv} {xs ys : List AV} {cs : List Value} (hl : cs.length = xs.length + ys.length) (h : CellsRel w κ pv xs (cs.take xs.length)) (k : CellsRel w κ pv ys ((cs.drop xs.length).take ys.length)) : CellsRel w κ pv (xs ++ ys) cs := by
  have := h.app k
  have e : cs.take xs.length ++ (cs.drop xs.length).take ys.length = cs := by
    rw [List.take_of_length_le (l := cs.drop xs.length) (by simp; omega), List.take_append_drop]
  rwa [e] at this

section
variable {H : Type} {enc : TypeId × Value → H} {P : Program} {w : World} {base : Nat} {spare : Nat → Bool} {held : Bool} {κ : Kap} {pv : Prv}

/-- What can be read at a type stands for data. -/
def Reads (enc : TypeId × Value → H) (P : Program) (w : World) (base : Nat) (spare : Nat → Bool) (held : Bool) (κ : Kap) (pv : Prv) {α : Type} (t : TypeId) (f : α → List AV) (fuel : Nat) : Prop :=
  ∀ cs x, DataW.trod enc P w base spare held fuel t cs = some x → ∃ a : α, CellsRel w κ pv (f a) cs

theorem reads_int {t : TypeId} (ht : P.underlying t = some (.int .i64)) (fuel : Nat) : Reads enc P w base spare held κ pv t encI fuel := fun cs x h => by
  obtain ⟨n, rfl, _, hw⟩ := DataW.trod_int ht h
  refine ⟨n, CellsRel.one (.int ?_)⟩
  simpa [Lit.wf, wfInt] using hw
theorem reads_str {t : TypeId} (ht : P.underlying t = some .string) (fuel : Nat) : Reads enc P w base spare held κ pv t encS fuel := fun cs x h => by
  obtain ⟨s, rfl, _, hw⟩ := DataW.trod_string ht h
  refine ⟨s.data.toList, CellsRel.one ?_⟩
  have := Rel.str (w := w) (κ := κ) (pv := pv) (s := s.data.toList) (by
    have : s.data.size ≤ maxLen := hw
    simpa [maxLen] using this)
  simpa using this

theorem reads_slice {α : Type} [Inhabited α] {t e : TypeId} {f : α → List AV} {sz : Nat} (ht : P.underlying t = some (.slice e)) (hc : P.cellsOf e = sz) (hsz : 0 < sz) (hf : ∀ a, (f a).length = sz) (hpv : ∀ b o, ¬ pv b o) {fuel : Nat}
    (he : ∀ n, n < fuel → Reads enc P w base spare held κ pv e f n) : Reads enc P w base spare held κ pv t (fun l : List α => [.slice (l.map f) .shared]) fuel := fun cs x h => by
  rcases DataW.trod_slice ht h with ⟨rfl, _⟩ | ⟨a, len, cap, elems, rest, m, rfl, rfl, _, _, hcap, hmax, hel, hget0, _, _⟩
  · refine ⟨[], CellsRel.one ?_⟩
    exact .slice (es := []) (tag := .shared) (a := none) (cap := 0) 0 0 sz (fun _ _ => undef) (fun i h => by cases h) (fun h => (h rfl).elim) (Nat.zero_le _) (by simp) (fun i j h => by cases h) (fun i j h => by cases h) (fun i j h => by cases h) trivial
  · have hget : ∀ i, i < len → ∃ v : List Value × α, w.cells? base (a.add (i * sz)) sz = some v.1 ∧ CellsRel w κ pv (f v.2) v.1 := fun i hi => by
      have h1 := hget0 i hi
      rw [List.getElem?_eq_getElem (by omega), hc] at h1
      obtain ⟨cs', h2, h3⟩ := Option.bind_eq_some_iff.1 h1
      obtain ⟨y, hy⟩ := he m (Nat.lt_succ_self m) cs' _ h3
      exact ⟨(cs', y), h2, hy⟩
    obtain ⟨V, hV⟩ := choose_lt hget
    refine ⟨(List.range len).map fun i => (V i).2, CellsRel.one ?_⟩
    have hlen : (((List.range len).map fun i => (V i).2).map f).length = len := by simp
    have hgetD : ∀ i, i < len → (((List.range len).map fun i => (V i).2).map f).getD i [] = f (V i).2 := fun i hi => by
      simp [List.getD, List.getElem?_map, List.getElem?_range hi]
    have hcell : ∀ i j, i < len → j < sz → w.cell? ((a.add (i * sz)).add j) = some ((V i).1.getD j undef) := fun i j hi hj => by
      obtain ⟨_, h2, h3⟩ := World.cells?_some (hV i hi).1
      rw [h3 j hj, List.getD, List.getElem?_eq_getElem (by omega)]
      rfl
    have hspot : 0 < len → a.spot = none := fun h0 => by
      have := World.cell?_spot (hcell 0 0 h0 hsz)
      simpa [Addr.add] using this
    have hadd : ∀ i j : Nat, a.spot = none → (a.add i).add j = ⟨a.block, a.off + (i + j), none⟩ := fun i j hs => by
      obtain ⟨b, o, s⟩ := a
      simp only at hs
      subst hs
      unfold Addr.add
      by_cases hi : i = 0
      · subst hi
        by_cases hj : j = 0
        · subst hj; simp
        · simp [hj]
      · by_cases hj : j = 0
        · subst hj; simp [hi]
        · simp [hi, hj]; omega
    have key := Rel.slice (w := w) (κ := κ) (pv := pv) (es := ((List.range len).map fun i => (V i).2).map f) (tag := .shared) (a := some a) (cap := cap) a.block a.off sz (fun i j => (V i).1.getD j undef)
      (fun i hi => by rw [hlen] at hi; rw [hgetD i hi, hf]) (fun hne => by
        have h0 : 0 < len := by
          apply Nat.pos_of_ne_zero
          intro h0
          apply hne
          rw [h0]; rfl
        rw [← hspot h0]) (by rw [hlen]; exact hcap) (by rw [hlen]; simp only [maxLen] at hmax; omega)
      (fun i j _ _ => hpv _ _) (fun i j hi hj => by
        rw [hlen] at hi
        have h1 := hcell i j hi hj
        rw [hadd _ _ (hspot (by omega))] at h1
        exact h1)
      (fun i j hi hj => by
        rw [hlen] at hi
        rw [hgetD i hi]
        exact (hV i hi).2.2 j (by rw [hf]; exact hj)) trivial
    rw [hlen] at key
    exact key
end

/-! ### At the program's types -/

instance : Inhabited Ty := ⟨.mk 0 [] []⟩
instance : Inhabited Carrier := ⟨⟨[], []⟩⟩
instance : Inhabited Decl := ⟨⟨[], .mk 0 [] []⟩⟩

theorem laidOut : laidOutB Tryz.prog = true := by kernel_rfl
theorem cl9 : Tryz.prog.cellsOf 9 = 1 := by kernel_rfl
theorem cl28 : Tryz.prog.cellsOf 28 = 3 := by kernel_rfl
theorem cl91 : Tryz.prog.cellsOf 91 = 2 := by kernel_rfl
theorem cl60 : Tryz.prog.cellsOf 60 = 4 := by kernel_rfl
theorem cl25 : Tryz.prog.cellsOf 25 = 2 := by kernel_rfl
theorem cl3 : Tryz.prog.cellsOf 3 = 1 := by kernel_rfl
theorem cl26 : Tryz.prog.cellsOf 26 = 1 := by kernel_rfl
theorem cl49 : Tryz.prog.cellsOf 49 = 1 := by kernel_rfl
theorem cl22 : Tryz.prog.cellsOf 22 = 1 := by kernel_rfl
theorem cl23 : Tryz.prog.cellsOf 23 = 1 := by kernel_rfl
end Abs
end Go.Proofs.YtiiaccpcoclklaaGreat
namespace Go.Proofs.YtiiaccpcoclklaaGreat
namespace Abs
open Go Go.Proofs Go.Deep Go.WideShapes

section
variable {H : Type} {enc : TypeId × Value → H} {w : World} {base : Nat} {spare : Nat → Bool} {held : Bool} {κ : Kap} {pv : Prv}

theorem get1 {α : Type} {xs : List α} {i n : Nat} (h : xs.length = n) (hi : i < n) : ∃ y, xs[i]? = some y := ⟨xs[i]'(by omega), List.getElem?_eq_getElem (by omega)⟩

theorem len_encTy (t : Ty) : (encTy t).length = 3 := by rw [encTy_eq]; rfl
set_option maxRecDepth 100000 in
theorem reads_ty (hpv : ∀ b o, ¬ pv b o) (fuel : Nat) : Reads enc Tryz.prog w base spare held κ pv 28 encTy fuel := by
  induction fuel using Nat.strongRecOn with
  | _ fuel ih =>
    intro cs x h
    obtain ⟨xs, n, rfl, _, hl, hlen, hf⟩ := DataW.trod_struct Tryz.underlying28 h
    rw [cl28] at hl
    match cs, hl with
    | [c0, c1, c2], _ =>
      obtain ⟨y0, e0⟩ := get1 (i := 0) hlen (by decide)
      obtain ⟨y1, e1⟩ := get1 (i := 1) hlen (by decide)
      obtain ⟨y2, e2⟩ := get1 (i := 2) hlen (by decide)
      have h0 := hf 0 _ rfl
      have h1 := hf 1 _ rfl
      have h2 := hf 2 _ rfl
      simp only [e0, cl3, List.drop_zero, List.take_succ_cons, List.take_zero] at h0
      simp only [e1, cl9, List.drop_succ_cons, List.drop_zero, List.take_succ_cons, List.take_zero] at h1
      simp only [e2, cl26, List.drop_succ_cons, List.drop_zero, List.take_succ_cons, List.take_zero] at h2
      obtain ⟨k, hk⟩ := reads_int (κ := κ) (pv := pv) Tryz.underlying3 n _ _ h0
      obtain ⟨nm, hn⟩ := reads_str (κ := κ) (pv := pv) Tryz.underlying9 n _ _ h1
      obtain ⟨ks, hks⟩ := reads_slice (f := encTy) Tryz.underlying26 cl28 (by decide) len_encTy hpv (fun m hm => ih m (by omega)) _ _ h2
      refine ⟨.mk k nm ks, ?_⟩
      have := hk.app (hn.app hks)
      rw [encTy_eq]
      exact this
set_option maxRecDepth 100000 in
theorem reads_strs (hpv : ∀ b o, ¬ pv b o) (fuel : Nat) : Reads enc Tryz.prog w base spare held κ pv 49 (fun l : List Str => [.slice (l.map encS) .shared]) fuel :=
  reads_slice (f := encS) Tryz.underlying49 cl9 (by decide) (fun _ => rfl) hpv (fun m _ => reads_str Tryz.underlying9 m)
set_option maxRecDepth 100000 in
theorem reads_carrier (hpv : ∀ b o, ¬ pv b o) (fuel : Nat) : Reads enc Tryz.prog w base spare held κ pv 91 encCarrier fuel := by
  intro cs x h
  obtain ⟨xs, n, rfl, _, hl, hlen, hf⟩ := DataW.trod_struct Tryz.underlying91 h
  rw [cl91] at hl
  match cs, hl with
  | [c0, c1], _ =>
    obtain ⟨y0, e0⟩ := get1 (i := 0) hlen (by decide)
    obtain ⟨y1, e1⟩ := get1 (i := 1) hlen (by decide)
    have h0 := hf 0 _ rfl
    have h1 := hf 1 _ rfl
    simp only [e0, cl9, List.drop_zero, List.take_succ_cons, List.take_zero] at h0
    simp only [e1, cl49, List.drop_succ_cons, List.drop_zero, List.take_succ_cons, List.take_zero] at h1
    obtain ⟨nm, hn⟩ := reads_str (κ := κ) (pv := pv) Tryz.underlying9 n _ _ h0
    obtain ⟨es, hes⟩ := reads_strs hpv n _ _ h1
    exact ⟨⟨nm, es⟩, hn.app hes⟩
set_option maxRecDepth 100000 in
theorem reads_decl (hpv : ∀ b o, ¬ pv b o) (fuel : Nat) : Reads enc Tryz.prog w base spare held κ pv 60 encDecl fuel := by
  intro cs x h
  obtain ⟨xs, n, rfl, _, hl, hlen, hf⟩ := DataW.trod_struct Tryz.underlying60 h
  rw [cl60] at hl
  match cs, hl with
  | [c0, c1, c2, c3], _ =>
    obtain ⟨y0, e0⟩ := get1 (i := 0) hlen (by decide)
    obtain ⟨y1, e1⟩ := get1 (i := 1) hlen (by decide)
    have h0 := hf 0 _ rfl
    have h1 := hf 1 _ rfl
    simp only [e0, cl9, List.drop_zero, List.take_succ_cons, List.take_zero] at h0
    simp only [e1, cl28, List.drop_succ_cons, List.drop_zero, List.take_succ_cons, List.take_zero] at h1
    obtain ⟨nm, hn⟩ := reads_str (κ := κ) (pv := pv) Tryz.underlying9 n _ _ h0
    obtain ⟨t, ht⟩ := reads_ty hpv n _ _ h1
    refine ⟨⟨nm, t⟩, ?_⟩
    have := hn.app ht
    rw [encTy_eq] at this
    exact this
def encEnv (e : Env) : List AV := [.slice (e.carriers.map encCarrier) .shared, .slice (e.names.map encDecl) .shared]
set_option maxRecDepth 100000 in
theorem reads_env (hpv : ∀ b o, ¬ pv b o) (fuel : Nat) : Reads enc Tryz.prog w base spare held κ pv 25 encEnv fuel := by
  intro cs x h
  obtain ⟨xs, n, rfl, _, hl, hlen, hf⟩ := DataW.trod_struct Tryz.underlying25 h
  rw [cl25] at hl
  match cs, hl with
  | [c0, c1], _ =>
    obtain ⟨y0, e0⟩ := get1 (i := 0) hlen (by decide)
    obtain ⟨y1, e1⟩ := get1 (i := 1) hlen (by decide)
    have h0 := hf 0 _ rfl
    have h1 := hf 1 _ rfl
    simp only [e0, cl22, List.drop_zero, List.take_succ_cons, List.take_zero] at h0
    simp only [e1, cl23, List.drop_succ_cons, List.drop_zero, List.take_succ_cons, List.take_zero] at h1
    obtain ⟨cs, hcs⟩ := reads_slice (f := encCarrier) Tryz.underlying22 cl91 (by decide) (fun _ => rfl) hpv (fun m _ => reads_carrier hpv m) _ _ h0
    obtain ⟨ds, hds⟩ := reads_slice (f := encDecl) Tryz.underlying23 cl60 (by decide) (fun _ => rfl) hpv (fun m _ => reads_decl hpv m) _ _ h1
    exact ⟨⟨cs, ds⟩, hcs.app hds⟩

set_option maxRecDepth 100000 in
/-- A struct that came in. -/
theorem reads_agg {α : Type} {r : Reach} {b0 : Nat} {t : TypeId} {fs : Array Field} {f : α → List AV} {v : Value} {d : DataW H} {p : List MemPlace} (hs : Tryz.prog.underlying t = some (.struct fs)) (hv : Value.okWide Tryz.prog w r b0 t v)
    (h : DataW.Trod enc Tryz.prog w base spare held t v d p) (hr : ∀ fuel, Reads enc Tryz.prog w base spare held κ pv t f fuel) : ∃ a : α, Rel w κ pv (.agg (f a)) v := by
  obtain ⟨cs, rfl, hsz⟩ := okWide_struct hs hv
  obtain ⟨fuel, hf⟩ := h
  obtain ⟨a, h1, h2⟩ := hr fuel _ _ hf
  simp only [Value.cells] at h1 h2
  refine ⟨a, ?_⟩
  have := Rel.agg (w := w) (κ := κ) (pv := pv) h1 h2
  simpa using this
set_option maxRecDepth 100000 in
theorem reads_string {r : Reach} {b0 : Nat} {v : Value} {d : DataW H} {p : List MemPlace} (hv : Value.okWide Tryz.prog w r b0 9 v)
    (h : DataW.Trod enc Tryz.prog w base spare held 9 v d p) : ∃ s : Str, s.length ≤ 9223372036854775807 ∧ Rel w κ pv (.str s) v := by
  obtain ⟨s, rfl, rfl, rfl, hs⟩ := Go.ChangeMaps.open_string Tryz.underlying9 hv h
  refine ⟨s.data.toList, ?_, ?_⟩
  · have : s.data.size ≤ maxLen := hs
    simpa [maxLen] using this
  · have := Rel.str (w := w) (κ := κ) (pv := pv) (s := s.data.toList) (by
      have : s.data.size ≤ maxLen := hs
      simpa [maxLen] using this)
    simpa using this
end

/-! ### From a contract to a call that writes nothing that was there -/

set_option maxRecDepth 100000 in
theorem entry0 (w : World) : Entry [] (fun _ _ => False) [] w :=
  ⟨rfl, fun l _ => rfl, fun l b h => by simp [at?] at h, fun l l' b h => by simp [at?] at h, fun l b h => by simp [at?] at h, fun _ _ h => h.elim, fun _ _ _ h => h.elim⟩
set_option maxRecDepth 100000 in
theorem pv0 : ∀ b o, ¬ pvOf (fun _ _ => False) [] [] b o := fun b o h => by
  rcases h with h | ⟨l, h, _⟩
  · exact h
  · simp [at?] at h
set_option maxRecDepth 100000 in
theorem calls_of {f : Nat} {args : List AV} {vs : List Value} {w : World} (h : ACalls Tryz.prog f args [] (.bool true) []) (hl : vs.length = args.length)
    (hr : ∀ j, j < args.length → Rel w [] (pvOf (fun _ _ => False) [] []) (args.getD j .unk) (vs.getD j undef)) :
    Calls Tryz.prog f vs.toArray w fun e w' => e = .returned (.bool true) ∧ Go.RowKit.Below w.heap.size w w' := by
  refine (h [] (fun _ _ => False) w vs (entry0 w) hl hr).mono fun e w' ⟨v, κ', he, hL, hv⟩ => ?_
  cases hv
  exact ⟨he, hL.os, hL.tape, hL.output, hL.evo.size, fun k hk => hL.kept k hk fun l h => by simp [at?] at h⟩

theorem names_short {env : Env} {w : World} {κ : Kap} {pv : Prv} {v : Value} (h : Rel w κ pv (.agg (encEnv env)) v) : ∀ d ∈ env.names, d.name.length ≤ 9223372036854775807 := by
  cases h with
  | @agg _ vs hl hj =>
    have h1 := hj 1 (by simp [encEnv])
    intro d hd
    obtain ⟨i, hi, rfl⟩ := List.mem_iff_getElem.1 hd
    have e : (encEnv env).getD 1 .unk = .slice (env.names.map encDecl) .shared := rfl
    rw [e] at h1
    generalize vs.getD 1 undef = u at h1
    cases h1 with
    | slice b off sz f h1 h2 h3 h3' h4 h5 h6 _ =>
      have hi' : i < (env.names.map encDecl).length := by simpa using hi
      have eg : (env.names.map encDecl).getD i [] = encDecl env.names[i] := by simp [List.getD, List.getElem?_map, List.getElem?_eq_getElem hi]
      have hsz := h1 i hi'
      rw [eg] at hsz
      have hz : sz = 4 := hsz.symm
      have := h6 i 0 hi' (by omega)
      rw [eg] at this
      have e2 : (encDecl env.names[i]).getD 0 .unk = .str env.names[i].name := rfl
      rw [e2] at this
      generalize f i 0 = g at this
      cases this
      assumption
end Abs
end Go.Proofs.YtiiaccpcoclklaaGreat
namespace Go.Proofs.YtiiaccpcoclklaaGreat
open Go Go.Proofs
theorem and2 {a b : Bool} (h : a = true) (k : b = true) : (a && b) = true := by rw [h, k]; rfl
theorem pf2 : (laidOutB Tryz.prog) = true := by kernel_rfl
theorem pf3 : (mapsRowed Tryz.prog) = true := by kernel_rfl
theorem pf7 : ((Tryz.prog.stops == [])) = true := by kernel_rfl
theorem pf9 : ((Tryz.prog.stopKnobs == [])) = true := by kernel_rfl
theorem pf25 : (Tryz.prog.stopsHeard) = true := by kernel_rfl
theorem pf26 : (Tryz.prog.mayEnter) = true := by kernel_rfl
end Go.Proofs.YtiiaccpcoclklaaGreat
namespace Go.Proofs.YtiiaccpcoclklaaGreat
open Go Go.Proofs
theorem TypingEnvs_k1 : (Rows.typingEnvsRow.wf (OpenSpec.ofChange Rows.typingEnvsSpec)) = true := by kernel_rfl
theorem TypingEnvs_k4 : (Tryz.f12.params.all (Tryz.prog.readableRec ·)) = true := by kernel_rfl
theorem TypingEnvs_k5 : (namedTie Tryz.prog Rows.typingEnvsRow.named Rows.typingEnvsSpec.vars) = true := by kernel_rfl
theorem TypingEnvs_k6 : ((Rows.typingEnvsRow.stops == [])) = true := by kernel_rfl
theorem TypingEnvs_k8 : ((Rows.typingEnvsRow.knobs == [])) = true := by kernel_rfl
theorem TypingEnvs_k10 : ((Rows.typingEnvsRow.inPlace == Tryz.prog.inPlace 12)) = true := by kernel_rfl
theorem TypingEnvs_k11 : ((Rows.typingEnvsRow.unfollowed == Tryz.prog.unfollowed 12)) = true := by kernel_rfl
theorem TypingEnvs_k12 : ((Rows.typingEnvsRow.recurses == Tryz.prog.recurses 12)) = true := by kernel_rfl
theorem TypingEnvs_k13 : ((Rows.typingEnvsRow.named == Tryz.prog.varsNamed 12)) = true := by kernel_rfl
theorem TypingEnvs_k14 : ((Rows.typingEnvsRow.maps == (Tryz.f12.params.toList ++ Rows.typingEnvsSpec.plain.varTypes Tryz.prog).any (Tryz.prog.mapsRec ·))) = true := by kernel_rfl
theorem TypingEnvs_k15 : ((Rows.typingEnvsRow.ifaces == (Tryz.f12.params.toList ++ Rows.typingEnvsSpec.plain.varTypes Tryz.prog).any (Tryz.prog.ifacesRec ·))) = true := by kernel_rfl
theorem TypingEnvs_k16 : ((Rows.typingEnvsRow.mapsOut == Tryz.prog.mapsAmong Tryz.f12.resultTypes.toList)) = true := by kernel_rfl
theorem TypingEnvs_k17 : ((Rows.typingEnvsRow.loops == (Tryz.f12.params.toList ++ Rows.typingEnvsSpec.plain.varTypes Tryz.prog).any (Tryz.prog.loopsFrom ·))) = true := by kernel_rfl
theorem TypingEnvs_k18 : ((Rows.typingEnvsRow.wideKeys == (Tryz.f12.params.toList ++ Rows.typingEnvsSpec.plain.varTypes Tryz.prog ++ Tryz.f12.resultTypes.toList).any (Tryz.prog.wideKeysFrom ·))) = true := by kernel_rfl
theorem TypingEnvs_k19 : (Rows.typingEnvsSpec.vars.all (Tryz.prog.varReadable ·)) = true := by kernel_rfl
theorem TypingEnvs_k20 : (Tryz.f12.resultTypes.all (fun t => Tryz.prog.readableRec t && decide (t < Tryz.prog.types.size))) = true := by kernel_rfl
theorem TypingEnvs_k21 : ((Rows.typingEnvsRow.ifacesOut == Tryz.f12.resultTypes.toList.any (Tryz.prog.ifacesRec ·))) = true := by kernel_rfl
theorem TypingEnvs_k22 : ((Rows.typingEnvsRow.loopsOut == Tryz.f12.resultTypes.toList.any (Tryz.prog.loopsFrom ·))) = true := by kernel_rfl
theorem TypingEnvs_k23 : ((Rows.typingEnvsRow.plainKeys == Tryz.prog.plainKeys)) = true := by kernel_rfl
theorem TypingEnvs_k24 : (Rows.typingEnvsRow.shortTexts.isNone) = true := by kernel_rfl
theorem TypingEnvs_k27 : ((Rows.typingEnvsRow.lifted == Tryz.prog.liftsFinal)) = true := by kernel_rfl
theorem TypingEnvs_k28 : ((Tryz.prog.make == some Rows.typingEnvsRow.make)) = true := by kernel_rfl
theorem TypingEnvs_k29 : ((Rows.typingEnvsRow.kinds == (if Rows.typingEnvsRow.domain.isEmpty then [] else Tryz.f12.params.toList.map fun t => match Tryz.prog.underlying t with | some (.int k) => some k | _ => none))) = true := by kernel_rfl
theorem TypingEnvs_k30 : ((Rows.typingEnvsRow.pinned == Rows.typingEnvsRow.pinnedBy)) = true := by kernel_rfl
theorem TypingEnvs_k31 : ((Rows.typingEnvsRow.veiled == (Tryz.f12.params.toList ++ Rows.typingEnvsSpec.plain.varTypes Tryz.prog ++ Tryz.f12.resultTypes.toList).any (Tryz.prog.veiledRec ·))) = true := by kernel_rfl
theorem TypingEnvs_k32 : (Rows.typingEnvsRow.veiledFits Tryz.prog Tryz.f12.params.toList (Tryz.f12.params.toList ++ Rows.typingEnvsSpec.plain.varTypes Tryz.prog ++ Tryz.f12.resultTypes.toList)) = true := by kernel_rfl
set_option maxRecDepth 100000 in
theorem TypingEnvs_facts : joinedFacts Tryz.prog 12 Tryz.f12 Rows.typingEnvsSpec Rows.typingEnvsRow = true := by
  unfold joinedFacts
  exact and2 (and2 (and2 (and2 (and2 (and2 (and2 (and2 (and2 (and2 (and2 (and2 (and2 (and2 (and2 (and2 (and2 (and2 (and2 (and2 (and2 (and2 (and2 (and2 (and2 (and2 (and2 (and2 (and2 (and2 (and2 TypingEnvs_k1 pf2) pf3) TypingEnvs_k4) TypingEnvs_k5) TypingEnvs_k6) pf7) TypingEnvs_k8) pf9) TypingEnvs_k10) TypingEnvs_k11) TypingEnvs_k12) TypingEnvs_k13) TypingEnvs_k14) TypingEnvs_k15) TypingEnvs_k16) TypingEnvs_k17) TypingEnvs_k18) TypingEnvs_k19) TypingEnvs_k20) TypingEnvs_k21) TypingEnvs_k22) TypingEnvs_k23) TypingEnvs_k24) pf25) pf26) TypingEnvs_k27) TypingEnvs_k28) TypingEnvs_k29) TypingEnvs_k30) TypingEnvs_k31) TypingEnvs_k32
set_option maxRecDepth 100000 in
theorem TypingEnvs_named : Tryz.prog.funcNamed Rows.typingEnvsRow.func = some 12 := by kernel_rfl
set_option maxRecDepth 100000 in
theorem TypingEnvs_inst : Tryz.f12.isInstance Tryz.prog Rows.typingEnvsRow.origin Rows.typingEnvsRow.targs := of_decide_eq_true (by kernel_rfl)
set_option maxRecDepth 100000 in
theorem TypingEnvs_wrap : Tryz.f12.isWrapper Tryz.prog Rows.typingEnvsRow.wrapper Rows.typingEnvsRow.mainSum := by unfold Func.isWrapper; first | (rw [if_pos (by decide +kernel)]; kernel_rfl) | (rw [if_neg (by decide +kernel)]; exact ⟨rfl, rfl⟩)
end Go.Proofs.YtiiaccpcoclklaaGreat

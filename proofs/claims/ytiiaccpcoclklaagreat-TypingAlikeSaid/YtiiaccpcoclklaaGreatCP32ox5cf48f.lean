/-
  The document's variations of terms and its likeness, of plain data; the law TypingAlike. Conditions: names are no longer than a string may be; lemmas without a program.
-/
import Derived.Test.YtiiaccpcoclklaaGreatCG6ox8f547b
set_option linter.unusedSimpArgs false
set_option linter.unusedVariables false
namespace Go.Proofs.YtiiaccpcoclklaaGreat
namespace Abs
open Go
theorem akM (l : List Str) (s : Str) (hl : l.length ≤ 100000) : Ev (fun n => C9 n l s) (l.filter fun x => !(x == s)) := by
 unfold C9
 have hrun : ∀ (ts : List Str) (i : Int) (acc : List Str), dZ (τ := List Str) (ρ := List Str) (fun _ (x : Str) a => LR.nx (cond (!(x == s)) (a ++ [x]) a)) (fun a => a) i ts acc = .nx (acc ++ ts.filter fun x => !(x == s)) := by
  intro ts
  induction ts with
  | nil => intro i acc; simp [dZ]
  | cons t ts ih =>
   intro i acc
   simp only [dZ]
   rw [ih, List.filter_cons]
   cases t == s <;> simp
 have h := vZ l (fun n k i (a : List Str) => zo n l s k (a, i)) (fun n i x a => (cond (!(x == s)) ((app 16 a ([x])).bind fun (x3 : List Str) => some (.nx x3)) (some (.nx a)))) (fun _ x a => .nx (cond (!(x == s)) (a ++ [x]) a)) (fun a => a) (fun _ suf a => a.length + suf.length ≤ 100000)
  (fun n k a => by
   show cond (decide ((l.length : Int) < (l.length : Int))) _ _ = _
   rw [decide_eq_false (by omega)]
   rfl)
  (fun n k i x a hx hi => by
   show cond (decide (i < (l.length : Int))) _ _ = _
   rw [hi]
   simp only [cond_true, hx, Option.bind_some]
   cases x == s with
   | true => rfl
   | false =>
    simp only [Bool.not_false, cond_true]
    rw [Option.bind_assoc, Option.bind_assoc]
    rfl)
  (fun i x suf a hx hI _ => by
   simp only [List.length_cons] at hI
   refine ⟨?_, fun s' hs' => ?_⟩
   ·cases x == s with
    | true => exact Ev.ret _
    | false =>
     simp only [Bool.not_false, cond_true]
     rw [eD (by simp; omega) (by omega)]
     exact Ev.ret _
   ·cases hs'
    cases x == s <;> simp <;> omega) (s0 := []) (by simpa using hl)
 rw [hrun, List.nil_append] at h
 exact Ev.bind h (Ev.ret _)
theorem anm (l : List Str) : (ES l).length ≤ l.length := by
 have key : ∀ (l a : List Str), (l.foldl Ci a).length ≤ a.length + l.length := by
  intro l
  induction l with
  | nil => intro a; simp
  | cons x l ih =>
   intro a
   simp only [List.foldl_cons, List.length_cons]
   have := ih (Ci a x)
   have := aei a x
   omega
 have := key l []
 simpa [ES] using this
def Dw (nm : Str) : List Str := [nm, ([120] : Str), ([121] : Str), ([122] : Str), ([110] : Str), ([120, 49] : Str), ([97] : Str), ([102] : Str)]
theorem ahj {α : Type} {l : List α} {i : Int} (h0 : 0 ≤ i) (h1 : i < (l.length : Int)) : ∃ x, idx l i = some x ∧ x ∈ l := by
 refine ⟨l[i.toNat]'(by omega), ?_, List.getElem_mem _⟩
 unfold idx
 rw [if_pos h0, List.getElem?_eq_getElem (by omega)]
theorem ag4 {a c : Int} (ha : 0 ≤ a) (hc : 0 < c) : ∃ x, J2 a c = some x ∧ 0 ≤ x ∧ x < c := by
 refine ⟨a.tmod c, by unfold J2; rw [if_neg (by omega)], Int.tmod_nonneg c ha, ?_⟩
 rw [Int.tmod_eq_emod_of_nonneg ha]
 exact Int.emod_lt_of_pos a hc
theorem ar1 (x : Int) : 0 ≤ IntKind.wrap .u64 x := by
 simp only [IntKind.wrap, IntKind.signed, IntKind.bits]
 simp
 omega
theorem akY {nm : Str} (hi : ident nm = true) (l : List Int) {at_ : Int} (ha : 0 ≤ at_) : ∃ i, Ev (fun _ => ((cond (decide (0 < (l.length : Int))) ((J2 at_ (l.length : Int)).bind fun (x15 : Int) => ((idx l x15).bind fun (x16 : Int) => ((J2 (IntKind.wrap .u64 x16) (IntKind.wrap .u64 ((Dw nm).length : Int))).bind fun (x17 : Int) => some (IntKind.wrap .i64 x17)))) (some 0)) : Option Int)) i ∧ ∃ w, idx (Dw nm) i = some w ∧ ident w = true := by
 have hw : ∀ w ∈ Dw nm, ident w = true := by
  intro w hw
  simp only [Dw, List.mem_cons, List.not_mem_nil, or_false] at hw
  rcases hw with rfl | rfl | rfl | rfl | rfl | rfl | rfl | rfl
  ·exact hi
  all_goals decide
 have fin : ∀ i : Int, 0 ≤ i → i < 8 → ∃ w, idx (Dw nm) i = some w ∧ ident w = true := fun i h0 h1 => by
  obtain ⟨w, e, hm⟩ := ahj (l := Dw nm) h0 h1
  exact ⟨w, e, hw w hm⟩
 cases hl : decide (0 < (l.length : Int)) with
 | false => exact ⟨0, Ev.ret _, fin 0 (by omega) (by omega)⟩
 | true =>
  simp only [decide_eq_true_eq] at hl
  obtain ⟨x, e1, h0, h1⟩ := ag4 ha hl
  obtain ⟨y, e2, _⟩ := ahj h0 h1
  have e8 : IntKind.wrap .u64 ((Dw nm).length : Int) = 8 := rfl
  obtain ⟨z, e3, z0, z1⟩ := ag4 (ar1 y) (show (0 : Int) < 8 by omega)
  refine ⟨z, ?_, fin z z0 z1⟩
  simp only [cond_true, e1, Option.bind_some, e2, e8, e3]
  rw [wrap64 (by omega) (by omega)]
  exact Ev.ret _
theorem aqI {X Y : List Str} {a b : Tm} (h : Alk X Y a b) {d : Int} (hw : Wf d a) : jY b = jY a := by
 obtain ⟨c, h0, h1⟩ := hw
 have h2 : (mf b d c).1 = true := by rw [← ZK h]; exact h1
 have e1 := (YJ a d c h1).2.1
 have e2 := (YJ b d c h2).2.1
 rw [ZK h] at e1
 omega
theorem ahh : ∀ {ks : List Tm} {k : Tm}, k ∈ ks → jY k ≤ vH ks
 | t :: ts, k, h => by
  have := Ac ts
  have := yt t
  simp only [vH]
  rcases List.mem_cons.1 h with rfl | h
  ·omega
  ·have := ahh h; omega
theorem PK {P : Tm → Int → Tm × Int → Prop} {ks : List Tm} {B : Int} (g : Tm → Int → Tm × Int) (hg : ∀ k ∈ ks, ∀ a : Int, 0 ≤ a → a ≤ B - jY k → P k a (g k a) ∧ a ≤ (g k a).2 ∧ (g k a).2 ≤ a + jY k) : ∀ (ts : List Tm), (∀ t ∈ ts, t ∈ ks) → ∀ (i a : Int) (acc : List Tm), 0 ≤ a → a ≤ B - vH ts →
  ∃ a' ts', dZ (τ := Int × List Tm) (ρ := Tm × Int) (fun _ (x : Tm) (s : Int × List Tm) => LR.nx ((g x s.1).2, s.2 ++ [(g x s.1).1])) (fun s => s) i ts (a, acc) = .nx (a', acc ++ ts') ∧ a ≤ a' ∧ a' ≤ a + vH ts ∧ ts'.length = ts.length ∧ ∀ (j : Nat) x y, ts[j]? = some x → ts'[j]? = some y → ∃ b, 0 ≤ b ∧ P x b (y, (g x b).2) ∧ y = (g x b).1
 | [], _, i, a, acc, h0, h1 => ⟨a, [], by simp [dZ], by omega, by simp [vH], rfl, fun j x y h => by simp at h⟩
 | t :: ts, hts, i, a, acc, h0, h1 => by
  simp only [vH] at h1
  have := Ac ts
  obtain ⟨p1, p2, p3⟩ := hg t (hts t (by simp)) a h0 (by omega)
  obtain ⟨a', ts', q1, q2, q3, q4, q5⟩ := PK g hg ts (fun t h => hts t (by simp [h])) (i + 1) (g t a).2 (acc ++ [(g t a).1]) (by omega) (by omega)
  refine ⟨a', (g t a).1 :: ts', ?_, by omega, by simp only [vH]; omega, by simp [q4], fun j x y hx hy => ?_⟩
  ·simp only [dZ]
   rw [q1]
   simp
  ·cases j with
   | zero =>
    simp only [List.getElem?_cons_zero, Option.some.injEq] at hx hy
    subst hx hy
    exact ⟨a, h0, p1, rfl⟩
   | succ j => exact q5 j x y (by simpa using hx) (by simpa using hy)
theorem acY (rec_ : Nat → Tm → List Int → Int → Option (Tm × Int)) (l : List Int) (at0 : Int) (nm : Str) (ks : List Tm) (hks : ks.length ≤ 2000) (B : Int) (g : Tm → Int → Tm × Int)
  (hg : ∀ k ∈ ks, ∀ a : Int, 0 ≤ a → a ≤ B - jY k → Ev (fun n => rec_ n k l a) (g k a) ∧ a ≤ (g k a).2 ∧ (g k a).2 ≤ a + jY k) {a : Int} (h0 : 0 ≤ a) (h1 : a ≤ B - vH ks) :
  Ev (fun n => xO n (rec_ n) l (at0, ks, nm) n (a, 0, [])) (dZ (τ := Int × List Tm) (ρ := Tm × Int) (fun _ (x : Tm) (s : Int × List Tm) => LR.nx ((g x s.1).2, s.2 ++ [(g x s.1).1])) (fun s => s) 0 ks (a, [])) :=
 vZ ks (fun n k i (s : Int × List Tm) => xO n (rec_ n) l (at0, ks, nm) k (s.1, i, s.2)) (fun n i x s => ((rec_ n x l s.1).bind fun (x4 : Tm × Int) => ((app 104 s.2 ([x4.1])).bind fun (x5 : List Tm) => some (.nx (x4.2, x5))))) (fun _ x s => .nx ((g x s.1).2, s.2 ++ [(g x s.1).1])) (fun s => s) (fun _ suf s => s.2.length + suf.length ≤ 2000 ∧ 0 ≤ s.1 ∧ s.1 ≤ B - vH suf)
  (fun n k s => by
   show cond (decide ((ks.length : Int) < (ks.length : Int))) _ _ = _
   rw [decide_eq_false (by omega)]
   rfl)
  (fun n k i x s hx hi => by
   show cond (decide (i < (ks.length : Int))) _ _ = _
   rw [hi]
   simp only [cond_true, hx, Option.bind_some]
   rw [Option.bind_assoc]
   congr 1
   funext x4
   rw [Option.bind_assoc]
   rfl)
  (fun i x suf s hx hI _ => by
   obtain ⟨i1, i2, i3⟩ := hI
   simp only [List.length_cons, vH] at i1 i3
   have := Ac suf
   obtain ⟨p1, p2, p3⟩ := hg x hx s.1 i2 (by omega)
   refine ⟨?_, fun s' hs' => ?_⟩
   ·refine Ev.bind p1 ?_
    rw [eD (by simp; omega) (by omega)]
    exact Ev.ret _
   ·cases hs'
    refine ⟨by simp; omega, by simp only; omega, by simp only; omega⟩) (s0 := (a, [])) ⟨by simpa using hks, h0, h1⟩
theorem anT {P : Tm → Int → Tm × Int → Prop} {ks : List Tm} {B : Int} (h : ∀ k ∈ ks, ∀ a : Int, 0 ≤ a → a ≤ B - jY k → ∃ r, P k a r) : ∃ g : Tm → Int → Tm × Int, ∀ k ∈ ks, ∀ a : Int, 0 ≤ a → a ≤ B - jY k → P k a (g k a) := by
 classical
 exact ⟨fun k a => if hk : k ∈ ks ∧ 0 ≤ a ∧ a ≤ B - jY k then Classical.choose (h k hk.1 a hk.2.1 hk.2.2) else (k, a), fun k hk a h0 h1 => by
  have hh : k ∈ ks ∧ 0 ≤ a ∧ a ≤ B - jY k := ⟨hk, h0, h1⟩
  simp only [dif_pos hh]
  exact Classical.choose_spec (h k hk a h0 h1)⟩
theorem apX (l : List Int) : ∀ (N : Nat) (t : Tm) (d a : Int), jY t ≤ (N : Int) → Wf d t → 0 < d → 0 ≤ a → a ≤ 1000000 - jY t → ∃ r, (Ev (fun n => o8 n t l a) r ∧ ∀ X, Alk X X t r.1) ∧ a ≤ r.2 ∧ r.2 ≤ a + jY t := by
 intro N
 induction N with
 | zero => intro t d a h; have := yt t; omega
 | succ N ih =>
  intro t d a hN hw hd0 ha0 ha1
  obtain ⟨op, nm, m, ty, ks⟩ := t
  obtain ⟨hnode, hd, hks, hkw⟩ := hw.node
  obtain ⟨_, h20k, _, _, hbk⟩ := jL hnode
  simp only [jY] at hN ha1
  have hs0 := Ac ks
  have go : ∀ {r : Tm × Int}, Ev (fun n => w9 n (fun p0 p1 p2 => o8 n p0 p1 p2) (.mk op nm m ty ks) l a) r → Ev (fun n => o8 n (.mk op nm m ty ks) l a) r := fun h => Ev.succ h
  have body : ∀ {r : Tm × Int} {s1 : Int × List Tm × Str}, Ev (fun n => (((jh n op).bind fun (x6 : Bool) => (cond x6 (((cond (decide (0 < (l.length : Int))) ((J2 a (l.length : Int)).bind fun (x15 : Int) => ((idx l x15).bind fun (x16 : Int) => ((J2 (IntKind.wrap .u64 x16) (IntKind.wrap .u64 ((Dw nm).length : Int))).bind fun (x17 : Int) => some (IntKind.wrap .i64 x17)))) (some 0)) : Option Int).bind fun (s4 : Int) => ((idx (Dw nm) s4).bind fun (x7 : Str) => ((idx ks 1).bind fun (x8 : Tm) => ((CX n x8).bind fun (x9 : List Str) => ((C9 n x9 nm).bind fun (x10 : List Str) => ((xR n x7 x10).bind fun (x11 : Str) => ((idx ks 1).bind fun (x12 : Tm) => ((mg n x12 ([(S_api_Binding.mk nm (Tm.mk 20 x11 0 (Ty.mk 0 ([] : Str) ([])) ([])))])).bind fun (x13 : Tm) => ((idx ks 1).bind fun (x14 : Tm) => some ((IntKind.wrap .i64 (a + 1)), (upd ks 1 x13), x11)))))))))) (some (a, ks, nm)))) : Option (Int × (List Tm) × Str))) s1 →
    Ev (fun n => (xO n (fun p0 p1 p2 => o8 n p0 p1 p2) l s1 n (s1.1, 0, ([] : List Tm))).bind (LR.el (fun (s3 : Int × (List Tm)) => some ((Tm.mk op s1.2.2 m ty s3.2), s3.1)) (fun r => some r))) r → Ev (fun n => w9 n (fun p0 p1 p2 => o8 n p0 p1 p2) (.mk op nm m ty ks) l a) r := fun h1 h2 => by
   unfold w9
   simp only [Tm.op, Tm.name, Tm.n, Tm.ty, Tm.kids]
   refine Ev.bind (mQ ty (GK hnode)) ?_
   rw [eD (by simp; omega) (by omega)]
   simp only [Option.bind_some, List.nil_append]
   exact Ev.bind h1 h2
  cases hb : bD op with
  | false =>
   obtain ⟨g, hg⟩ := anT (B := 1000000) (P := fun k b r => (Ev (fun n => o8 n k l b) r ∧ ∀ X, Alk X X k r.1) ∧ b ≤ r.2 ∧ r.2 ≤ b + jY k) (ks := ks) fun k hk b h0 h1 => ih k (d + 1) b (by have := ahh hk; omega) (hkw k hk) (by omega) h0 h1
   have hloop := acY (fun n p0 p1 p2 => o8 n p0 p1 p2) l a nm ks hks 1000000 g (fun k hk b h0 h1 => ⟨(hg k hk b h0 h1).1.1, (hg k hk b h0 h1).2⟩) ha0 (by omega)
   obtain ⟨a', ts', q1, q2, q3, q4, q5⟩ := PK (P := fun k _ r => ∀ X, Alk X X k r.1) (B := 1000000) (ks := ks) g (fun k hk b h0 h1 => ⟨(hg k hk b h0 h1).1.2, (hg k hk b h0 h1).2⟩) ks (fun _ h => h) 0 a [] ha0 (by omega)
   rw [q1, List.nil_append] at hloop
   refine ⟨(.mk op nm m ty ts', a'), ⟨go (body (s1 := (a, ks, nm)) ?_ ?_), fun X => ?_⟩, q2, by simp only [jY]; omega⟩
   ·simp only [qF, Option.bind_some, hb, cond_false]
    exact Ev.ret _
   ·exact Ev.bind hloop (Ev.ret _)
   ·cases h20 : (op == 20) with
    | true =>
     have e : op = 20 := by simpa using h20
     have hk0 := h20k e
     subst hk0
     have : ts' = [] := List.length_eq_zero_iff.1 (by simpa using q4)
     subst this
     exact anB _ d hw X
    | false =>
     refine .node h20 hb q4 fun i x y hx hy => ?_
     obtain ⟨b, _, h1, _⟩ := q5 i x y hx hy
     exact h1 X
  | true =>
   obtain ⟨p, q, rfl⟩ := hbk hb
   have h20 := (Bg hb).1
   have hnm : ident nm = true := by
    have hnode := hnode
    simp only [fD, oI, Tm.op, Tm.name, hb, h20, cond_false, cond_true, Bool.and_eq_true] at hnode
    exact hnode.2.1
   have hwp := hkw p (by simp)
   have hwq := hkw q (by simp)
   have hvq : cu q = true := hwq.valid (by omega)
   obtain ⟨i, ei, w, ew, hwi⟩ := akY hnm l ha0
   have hfl := hwq.GR []
   have hsl := anm (dw q [])
   have hfe : vW q = ES (dw q []) := by unfold vW; rw [hvq]; rfl
   have hel : ((vW q).filter fun x => !(x == nm)).length ≤ 2000 := by
    have := List.length_filter_le (fun x => !(x == nm)) (vW q)
    rw [hfe] at this ⊢
    omega
   obtain ⟨nm', ef, hnf, hni⟩ := aek hwi (used := (vW q).filter fun x => !(x == nm)) (by omega)
   have hl1 : ∀ x ∈ [S_api_Binding.mk nm (oD nm')], cu x.term = true := fun x hx => by
    simp only [List.mem_singleton] at hx
    subst hx
    exact (aej (vT hni)).valid (by omega)
   obtain ⟨q', eq', sq⟩ := aeB q (d + 1) [S_api_Binding.mk nm (oD nm')] hwq (by omega) (by simp; omega) hl1
   have hlk : ∀ x, jl [S_api_Binding.mk nm (oD nm')] x = cond (nm == x) (some (oD nm')) none := fun x => by
    rw [EJ]
    rfl
   have hnot : ∀ x, rA x q = true → x ≠ nm → x ≠ nm' := fun x hx hne e => by
    subst e
    refine hnf (List.mem_filter.2 ⟨?_, by simpa using hne⟩)
    rw [hfe]
    exact ((DL _).2 _).2 (Jj.2 hx)
   have aq : ∀ X, Alk (nm :: X) (nm' :: X) q q' := fun X => apL sq (nm :: X) (nm' :: X) (d + 1) hwq fun x hx => by
    rw [hlk]
    cases e : nm == x with
    | true =>
     have e' : nm = x := by simpa using e
     subst e'
     exact ⟨nm', 0, rfl, vT hni, by simp [ix], by simp [ix]⟩
    | false =>
     have hne : x ≠ nm := fun h => by simp [h] at e
     have e2 : (nm' == x) = false := by simpa using fun h => hnot x hx hne h.symm
     simp only [cond_false, ix, e, e2]
   have hwq' : Wf (d + 1) q' := aly (aq []) hwq
   have hsq : jY q' = jY q := aqI (aq []) hwq
   simp only [vH] at hN ha1 hs0
   have sp := yt p
   have sq0 := yt q
   have hkw' : ∀ k ∈ [p, q'], Wf (d + 1) k ∧ jY k ≤ (N : Int) := fun k hk => by
    simp only [List.mem_cons, List.not_mem_nil, or_false] at hk
    rcases hk with rfl | rfl
    ·exact ⟨hwp, by omega⟩
    ·exact ⟨hwq', by omega⟩
   obtain ⟨g, hg⟩ := anT (B := 1000001) (P := fun k b r => b ≤ 1000000 - jY k → (Ev (fun n => o8 n k l b) r ∧ ∀ X, Alk X X k r.1) ∧ b ≤ r.2 ∧ r.2 ≤ b + jY k) (ks := [p, q']) fun k hk b h0 h1 => by
    by_cases hb1 : b ≤ 1000000 - jY k
    ·obtain ⟨r, hr⟩ := ih k (d + 1) b (hkw' k hk).2 (hkw' k hk).1 (by omega) h0 hb1
     exact ⟨r, fun _ => hr⟩
    ·exact ⟨(k, b), fun h => absurd h hb1⟩
   have hg' : ∀ k ∈ [p, q'], ∀ b : Int, 0 ≤ b → b ≤ 1000000 - jY k → (Ev (fun n => o8 n k l b) (g k b) ∧ ∀ X, Alk X X k (g k b).1) ∧ b ≤ (g k b).2 ∧ (g k b).2 ≤ b + jY k := fun k hk b h0 h1 => hg k hk b h0 (by omega) h1
   have hz : vH [p, q'] = jY p + (jY q + 0) := by simp only [vH, hsq]
   have hloop := acY (fun n p0 p1 p2 => o8 n p0 p1 p2) l (a + 1) nm' [p, q'] (by simp) 1000000 g (fun k hk b h0 h1 => ⟨(hg' k hk b h0 h1).1.1, (hg' k hk b h0 h1).2⟩) (a := a + 1) (by omega) (by omega)
   obtain ⟨a', ts', q1, q2, q3, q4, q5⟩ := PK (P := fun k _ r => ∀ X, Alk X X k r.1) (B := 1000000) (ks := [p, q']) g (fun k hk b h0 h1 => ⟨(hg' k hk b h0 h1).1.2, (hg' k hk b h0 h1).2⟩) [p, q'] (fun _ h => h) 0 (a + 1) [] (by omega) (by omega)
   rw [q1, List.nil_append] at hloop
   obtain ⟨p2, q2', rfl⟩ := dR ts' (by rw [q4]; rfl)
   refine ⟨(.mk op nm' m ty [p2, q2'], a'), ⟨go (body (s1 := (a + 1, [p, q'], nm')) ?_ ?_), fun X => ?_⟩, by simp only; omega, by simp only [jY, vH]; omega⟩
   ·simp only [qF, Option.bind_some, hb, cond_true]
    refine Ev.bind ei ?_
    rw [ew]
    simp only [Option.bind_some, jK]
    refine Ev.bind (aad q) ?_
    refine Ev.bind (akM (vW q) nm (by rw [hfe]; omega)) ?_
    refine Ev.bind ef ?_
    refine Ev.bind eq' ?_
    rw [wrap64 (by omega) (by omega)]
    exact Ev.ret _
   ·exact Ev.bind hloop (Ev.ret _)
   ·obtain ⟨_, _, a1, _⟩ := q5 0 p p2 rfl rfl
    obtain ⟨_, _, a2, _⟩ := q5 1 q' q2' rfl rfl
    exact .bind hb (by rw [hnm, hni]) (a1 X) (ak4 (aq X) _ _ (a2 _))
theorem apF {t : Tm} (h : cu t = true) (l : List Int) : ∃ t', Ev (fun n => RH n t l) t' ∧ Alk [] [] t t' := by
 have hz := vD h
 obtain ⟨r, ⟨h1, h2⟩, _, _⟩ := apX l (jY t).toNat t 1 0 (by have := yt t; omega) (gG h) (by omega) (by omega) (by omega)
 exact ⟨r.1, Ev.bind h1 (Ev.ret _), h2 []⟩
def adV (s : Str) (X : List Str) : Int := match ix s X with | some i => (X.length : Int) - 1 - i | none => -1
theorem anS {s : Str} : ∀ {X : List Str} {i : Nat}, ix s X = some i → i < X.length
 | x :: X, i, h => by
  simp only [ix] at h
  cases hx : x == s with
  | true => rw [hx] at h; simp at h; subst h; simp
  | false =>
   rw [hx] at h
   obtain ⟨j, hj, rfl⟩ := Option.map_eq_some_iff.1 h
   have := anS hj
   simp; omega
theorem Rb (s : Str) (X : List Str) : Ev (fun n => CV n s X.reverse) (adV s X) := by
 have key : ∀ (X post : List Str) (n k : Nat), X.length + 1 ≤ k → Ae n s (X.reverse ++ post) k ((X.length : Int) - 1) = some (match ix s X with | some i => .rt ((X.length : Int) - 1 - i) | none => .nx ()) := by
  intro X
  induction X with
  | nil =>
   intro post n k hk
   cases k with
   | zero => simp at hk
   | succ k => rfl
  | cons x X ih =>
   intro post n k hk
   cases k with
   | zero => simp at hk
   | succ k =>
    have e : (((x :: X).length : Int) - 1) = (X.reverse.length : Int) := by simp
    have e2 : (x :: X).reverse ++ post = X.reverse ++ x :: post := by simp
    rw [e, e2]
    show cond (decide ((0 : Int) ≤ (X.reverse.length : Int))) ((idx (X.reverse ++ x :: post) (X.reverse.length : Int)).bind _) _ = _
    rw [decide_eq_true (by omega), zC]
    simp only [cond_true, Option.bind_some, ix]
    cases hd : x == s with
    | true => simp
    | false =>
     simp only [cond_false]
     have := ih (x :: post) n k (by simp at hk; omega)
     rw [List.length_reverse, this]
     cases ix s X with
     | none => rfl
     | some i => simp; omega
 unfold CV
 have h1 : Ev (fun n => Ae n s X.reverse n ((X.reverse.length : Int) - 1)) (match ix s X with | some i => .rt ((X.length : Int) - 1 - i) | none => .nx ()) := ⟨X.length + 1, fun n hn => by
  have := key X [] n n hn
  rw [List.append_nil] at this
  rw [List.length_reverse]
  exact this⟩
 refine Ev.bind h1 ?_
 unfold adV
 cases ix s X <;> exact Ev.ret _
theorem aov {X Y : List Str} {a b : Tm} (h : Alk X Y a b) : ∀ d : Int, Wf d a → X.length = Y.length → (X.length : Int) < d → Ev (fun n => l9 n a b X.reverse Y.reverse) true := by
 have fin : ∀ {op : Int} {nm nm' : Str} {m : Int} {ty : Ty} {ks ks' : List Tm} {x y : List Str}, ks'.length = ks.length →
   Ev (fun n => (cond (op == 20) ((CV n nm x).bind fun (x1 : Int) => ((CV n nm' y).bind fun (x2 : Int) => (((cond (x1 == x2) (cond (decide (0 ≤ x1)) (some true) (some (nm == nm'))) (some false)) : Option Bool).bind fun (s2 : Bool) => some s2))) ((qh n (fun p0 p1 p2 p3 => l9 n p0 p1 p2 p3) (.mk op nm m ty ks) (.mk op nm' m ty ks') x y n 0).bind (LR.el (fun (s4 : Unit) => some true) (fun r => some r))))) true →
   Ev (fun n => l9 n (.mk op nm m ty ks) (.mk op nm' m ty ks') x y) true := by
  intro op nm nm' m ty ks ks' x y hl h
  refine Ev.succ ?_
  show Ev (fun n => yu n (fun p0 p1 p2 p3 => l9 n p0 p1 p2 p3) (.mk op nm m ty ks) (.mk op nm' m ty ks') x y) _
  unfold yu
  simp only [Tm.op, Tm.name, Tm.n, Tm.ty, Tm.kids, bne_self_eq_false, cond_false, hl]
  refine Ev.bind (a := false) ?_ ?_
  ·refine Ev.bind (kI ty) ?_
   exact Ev.ret _
  ·exact h
 induction h with
 | @bnd X Y nm nm' m ty ks i h h' hn =>
  intro d hw hlen hd
  refine fin rfl ?_
  simp only [show ((20 : Int) == 20) = true from rfl, cond_true]
  refine Ev.bind (Rb nm X) ?_
  refine Ev.bind (Rb nm' Y) ?_
  have hi := anS h
  unfold adV
  rw [h, h', hlen]
  simp only [beq_self_eq_true, cond_true]
  rw [decide_eq_true (by omega)]
  exact Ev.ret _
 | @fre X Y nm m ty ks h h' =>
  intro d hw hlen hd
  refine fin rfl ?_
  simp only [show ((20 : Int) == 20) = true from rfl, cond_true]
  refine Ev.bind (Rb nm X) ?_
  refine Ev.bind (Rb nm Y) ?_
  unfold adV
  rw [h, h']
  simp only [beq_self_eq_true, cond_true]
  exact Ev.ret _
 | @node X Y op nm m ty ks ks' h20 hb hl h ih =>
  intro d hw hlen hd
  obtain ⟨_, _, _, hkw⟩ := hw.node
  refine fin hl ?_
  simp only [h20, cond_false]
  have hloop := vZ (ρ := Bool) ks (fun n k i (_ : Unit) => qh n (fun p0 p1 p2 p3 => l9 n p0 p1 p2 p3) (.mk op nm m ty ks) (.mk op nm m ty ks') X.reverse Y.reverse k i)
   (fun n i x _ => (idx ks' i).bind fun (x4 : Tm) => ((l9 n x x4 X.reverse Y.reverse).bind fun (x5 : Bool) => (cond (!x5) (some (.rt false)) (some (.nx ()))))) (fun _ _ _ => .nx ()) (fun _ => ()) (fun _ _ _ => True)
   (fun n k u => by
    show cond (decide ((ks.length : Int) < (ks.length : Int))) _ _ = _
    rw [decide_eq_false (by omega)]
    rfl)
   (fun n k i x u hx hi => by
    show cond (decide (i < (ks.length : Int))) _ _ = _
    rw [hi]
    simp only [cond_true, Tm.op, Tm.name, Tm.kids, qF, Option.bind_some, hb, cond_false, hx]
    rw [Option.bind_assoc]
    congr 1
    funext x4
    rw [Option.bind_assoc]
    congr 1
    funext x5
    cases x5 <;> rfl)
   (fun i x suf u hx _ hidx => by
    obtain ⟨i0, hg⟩ := Rx hidx
    have hlt := (List.getElem?_eq_some_iff.1 hg).1
    have hy : ks'[i.toNat]? = some (ks'[i.toNat]'(by omega)) := List.getElem?_eq_getElem (by omega)
    have hyi : idx ks' i = some (ks'[i.toNat]'(by omega)) := by unfold idx; rw [if_pos i0, hy]
    refine ⟨?_, fun _ _ => trivial⟩
    rw [hyi]
    simp only [Option.bind_some]
    exact Ev.bind (ih i.toNat x _ hg hy (d + 1) (hkw x hx) hlen (by omega)) (Ev.ret _)) (s0 := ()) trivial
  have hrun : ∀ (ts : List Tm) (i : Int), dZ (τ := Unit) (ρ := Bool) (fun _ (_ : Tm) (_ : Unit) => LR.nx ()) (fun _ => ()) i ts () = .nx () := by
   intro ts
   induction ts with
   | nil => intro i; rfl
   | cons t ts ih => intro i; exact ih (i + 1)
  rw [hrun] at hloop
  exact Ev.bind hloop (Ev.ret _)
 | @bind X Y op nm nm' m ty p q p' q' hb hi hp hq ihp ihq =>
  intro d hw hlen hd
  obtain ⟨_, hd64, _, hkw⟩ := hw.node
  have wx : ∀ n, uN n X.reverse nm = some (nm :: X).reverse := fun n => by rw [RF _ _ _ (by simp; omega)]; simp
  have wy : ∀ n, uN n Y.reverse nm' = some (nm' :: Y).reverse := fun n => by rw [RF _ _ _ (by simp; omega)]; simp
  obtain ⟨N1, h1⟩ := ihp (d + 1) (hkw p (by simp)) hlen (by omega)
  obtain ⟨N2, h2⟩ := ihq (d + 1) (hkw q (by simp)) (by simp [hlen]) (by simp; omega)
  refine fin rfl ?_
  simp only [(Bg hb).1, cond_false]
  have hloop : Ev (fun n => qh n (fun p0 p1 p2 p3 => l9 n p0 p1 p2 p3) (.mk op nm m ty [p, q]) (.mk op nm' m ty [p', q']) X.reverse Y.reverse n 0) (.nx ()) := by
   refine ⟨max (max N1 N2) 3, fun n hn => ?_⟩
   obtain ⟨k, hk⟩ : ∃ k, n = k + 3 := ⟨n - 3, by omega⟩
   have e1 : l9 n p p' X.reverse Y.reverse = some true := h1 n (by omega)
   have e2 : l9 n q q' (nm :: X).reverse (nm' :: Y).reverse = some true := h2 n (by omega)
   have step : ∀ f, qh n (fun p0 p1 p2 p3 => l9 n p0 p1 p2 p3) (.mk op nm m ty [p, q]) (.mk op nm' m ty [p', q']) X.reverse Y.reverse (f + 3) 0 = some (.nx ()) := by
    intro f
    simp only [qh, Tm.op, Tm.name, Tm.kids, qF, Option.bind_some, hb, cond_true, List.length_cons, List.length_nil, wx, wy, gF, jK, e1, e2,
     show ((0 : Int) == 1) = false from rfl, show ((0 : Int) + 1 == 1) = true from rfl, show decide ((0 : Int) < ((0 + 1 + 1 : Nat) : Int)) = true from rfl, show decide ((0 : Int) + 1 < ((0 + 1 + 1 : Nat) : Int)) = true from rfl, show decide ((0 : Int) + 1 + 1 < ((0 + 1 + 1 : Nat) : Int)) = false from rfl,
     show (0 : Int) + 1 = 1 from rfl, show ((1 : Int) == 1) = true from rfl, cond_false, Bool.not_true]
    rfl
   subst hk
   exact step k
  exact Ev.bind hloop (Ev.ret _)
theorem XR (env : Env) (t : Tm) (l : List Int) (hs : iN env) (ht : fI t) : Ev (fun n => Aj n env t l) true := by
 unfold Aj dh
 refine Ev.bind (a := !(je env && cu t)) ?_ ?_
 ·refine Ev.bind (nA env) ?_
  cases je env with
  | false => exact Ev.ret _
  | true => exact Ev.bind (jA t) (Ev.ret _)
 ·cases hc : (je env && cu t) with
  | false => exact Ev.ret _
  | true =>
   simp only [Bool.and_eq_true] at hc
   simp only [Bool.not_true, cond_false]
   obtain ⟨t', ev, ha⟩ := apF hc.2 l
   have hv' : cu t' = true := (OL ha).symm.trans hc.2
   have ht' : fI t' := PI _ (vD hv').1
   have hty : bC env [] t = bC env [] t' := aqB (env := env) ha [] rfl rfl
   have hte : dY env t = dY env t' := by
    unfold dY
    rw [hc.2, hv', hty]
   have had := ao5 ha 1 (gG hc.2)
   refine Ev.bind ev ?_
   refine Ev.bind (fA env t hs ht) ?_
   refine Ev.bind (fA env t' hs ht') ?_
   rw [hte]
   simp only [bne_self_eq_false, cond_false]
   refine Ev.bind (a := false) (Ev.bind (kI _) (Ev.ret _)) ?_
   simp only [cond_false]
   refine Ev.bind (mh env t hs ht) ?_
   refine Ev.bind (mh env t' hs ht') ?_
   refine Ev.bind (a := true) ?_ (Ev.ret _)
   unfold AL
   rw [hte, OL had]
   cases he : ((dY env t').2.2 != 0) with
   | true =>
    simp only [cond_true, beq_self_eq_true, he]
    exact Ev.ret _
   | false =>
    simp only [cond_false]
    cases hd : cu (dQ t') with
    | false => exact Ev.ret _
    | true =>
     have hd1 : cu (dQ t) = true := (OL had).trans hd
     simp only [cond_true, beq_self_eq_true, bne_self_eq_false, cond_false]
     refine Ev.bind (a := true) ?_ (Ev.ret _)
     unfold MK
     refine Ev.bind (a := true) ?_ (Ev.ret _)
     refine Ev.bind (jA _) ?_
     rw [hd1]
     simp only [cond_true]
     refine Ev.bind (jA _) ?_
     rw [hd]
     simp only [cond_true]
     exact Ev.bind (aov had 1 (gG hd1) rfl (by simp)) (Ev.ret _)
end Abs
end Go.Proofs.YtiiaccpcoclklaaGreat

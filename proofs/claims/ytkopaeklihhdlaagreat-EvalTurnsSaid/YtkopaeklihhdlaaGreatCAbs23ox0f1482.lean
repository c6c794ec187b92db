/-
  Regions that draw their order: where operations that are not ordered touch different slots and objects, every order leads to the state of the order of the text. Conditions: none; lemmas over any program.
-/
import Derived.Test.YtkopaeklihhdlaaGreatCAbs17ox00cb80
set_option linter.unusedSimpArgs false
set_option linter.unusedVariables false
namespace Go.Proofs.YtkopaeklihhdlaaGreat
namespace Abs
open Go
structure Eff where
 rs : List Nat
 ro : List Nat
 ws : List Wr
def mE (ws : List Wr) : List Nat := ws.filterMap fun | .slot n _ => some n | _ => none
def o9 (ws : List Wr) : List Nat := ws.filterMap fun | .obj n _ => some n | _ => none
def kG : List Wr → Nat → Option AV
 | [], _ => none
 | .slot m v :: ws, n => (kG ws n).or (if m = n then some v else none)
 | .obj _ _ :: ws, n => kG ws n
def jY : List Wr → Nat → Option AObj
 | [], _ => none
 | .obj m v :: ws, n => (jY ws n).or (if m = n then some v else none)
 | .slot _ _ :: ws, n => jY ws n
theorem jK (ws : List Wr) : ∀ s : ASt, (s.wr ws).tmps.length = s.tmps.length ∧ (s.wr ws).heap.length = s.heap.length := by
 induction ws with
 | nil => intro s; exact ⟨rfl, rfl⟩
 | cons w ws ih =>
  intro s
  have := ih (s.Wv w)
  refine ⟨this.1.trans ?_, this.2.trans ?_⟩ <;> cases w <;> simp [ASt.Wv, ASt.setSlot, ASt.setObj]
theorem AX (ws : List Wr) (n : Nat) : ∀ s : ASt, n < s.tmps.length → (s.wr ws).tmps.getD n .unk = (kG ws n).getD (s.tmps.getD n .unk) := by
 induction ws with
 | nil => intro s _; rfl
 | cons w ws ih =>
  intro s hn
  have h1 := ih (s.Wv w) (by cases w <;> simpa [ASt.Wv, ASt.setSlot, ASt.setObj] using hn)
  refine h1.trans ?_
  cases w with
  | slot m v =>
   simp only [kG]
   cases kG ws n with
   | some x => rfl
   | none =>
    simp only [Option.getD_none, Option.none_or]
    by_cases e : m = n
    ·subst e; rw [if_pos rfl]; exact gY hn
    ·rw [if_neg e]; exact jN e
  | obj m v => rfl
theorem EC (ws : List Wr) (n : Nat) : ∀ s : ASt, n < s.heap.length → obj? (s.wr ws).heap n = (jY ws n).getD (obj? s.heap n) := by
 induction ws with
 | nil => intro s _; rfl
 | cons w ws ih =>
  intro s hn
  have h1 := ih (s.Wv w) (by cases w <;> simpa [ASt.Wv, ASt.setSlot, ASt.setObj] using hn)
  refine h1.trans ?_
  cases w with
  | obj m v =>
   simp only [jY]
   cases jY ws n with
   | some x => rfl
   | none =>
    simp only [Option.getD_none, Option.none_or]
    by_cases e : m = n
    ·subst e; rw [if_pos rfl]; exact obj?_set_same hn
    ·rw [if_neg e]; exact obj?_set_other e
  | slot m v => rfl
theorem BU (a b : List Wr) (n : Nat) : kG (a ++ b) n = (kG b n).or (kG a n) := by
 induction a with
 | nil => simp [kG]
 | cons w a ih => cases w <;> simp [kG, ih, Option.or_assoc]
theorem Bh (a b : List Wr) (n : Nat) : jY (a ++ b) n = (jY b n).or (jY a n) := by
 induction a with
 | nil => simp [jY]
 | cons w a ih => cases w <;> simp [jY, ih, Option.or_assoc]
theorem OB {ws : List Wr} {n : Nat} (h : n ∉ mE ws) : kG ws n = none := by
 induction ws with
 | nil => rfl
 | cons w ws ih =>
  cases w with
  | slot m v =>
   simp only [mE, List.filterMap_cons, List.mem_cons, not_or] at h
   simp only [kG, ih h.2, Option.none_or, if_neg (Ne.symm h.1)]
  | obj m v => simp only [mE, List.filterMap_cons] at h; exact ih h
theorem NJ {ws : List Wr} {n : Nat} (h : n ∉ o9 ws) : jY ws n = none := by
 induction ws with
 | nil => rfl
 | cons w ws ih =>
  cases w with
  | obj m v =>
   simp only [o9, List.filterMap_cons, List.mem_cons, not_or] at h
   simp only [jY, ih h.2, Option.none_or, if_neg (Ne.symm h.1)]
  | slot m v => simp only [o9, List.filterMap_cons] at h; exact ih h
theorem ASt.ext' {s t : ASt} (h1 : s.tmps.length = t.tmps.length) (h2 : s.heap.length = t.heap.length) (h3 : ∀ n, n < s.tmps.length → s.tmps.getD n .unk = t.tmps.getD n .unk) (h4 : ∀ n, n < s.heap.length → obj? s.heap n = obj? t.heap n) : s = t := by
 obtain ⟨a, b⟩ := s
 obtain ⟨c, d⟩ := t
 simp only at h1 h2 h3 h4
 congr 1
 ·apply List.ext_getElem h1
  intro n g1 g2
  have := h3 n g1
  simpa [List.getD, g1, g2] using this
 ·apply List.ext_getElem h2
  intro n g1 g2
  have := h4 n g1
  simpa [obj?, g1, g2] using this
def dG (D : Nat → Bool) : Nat → List Eff → List Wr
 | _, [] => []
 | k, e :: es => (if D k then e.ws else []) ++ dG D (k + 1) es
theorem Jp {D D' : Nat → Bool} {n : Nat} : ∀ (es : List Eff) (k : Nat), (∀ i e, es[i]? = some e → n ∈ mE e.ws → D (k + i) = D' (k + i)) → kG (dG D k es) n = kG (dG D' k es) n := by
 intro es
 induction es with
 | nil => intro k _; rfl
 | cons e es ih =>
  intro k h
  simp only [dG, BU]
  rw [ih (k + 1) (fun i f hf hn => by have := h (i + 1) f (by simpa using hf) hn; rwa [show k + (i + 1) = k + 1 + i from by omega] at this)]
  congr 1
  by_cases hn : n ∈ mE e.ws
  ·have := h 0 e (by simp) hn; rw [Nat.add_zero] at this; rw [this]
  ·have := OB hn
   cases D k <;> cases D' k <;> simp [this, kG]
theorem Jr {D D' : Nat → Bool} {n : Nat} : ∀ (es : List Eff) (k : Nat), (∀ i e, es[i]? = some e → n ∈ o9 e.ws → D (k + i) = D' (k + i)) → jY (dG D k es) n = jY (dG D' k es) n := by
 intro es
 induction es with
 | nil => intro k _; rfl
 | cons e es ih =>
  intro k h
  simp only [dG, Bh]
  rw [ih (k + 1) (fun i f hf hn => by have := h (i + 1) f (by simpa using hf) hn; rwa [show k + (i + 1) = k + 1 + i from by omega] at this)]
  congr 1
  by_cases hn : n ∈ o9 e.ws
  ·have := h 0 e (by simp) hn; rw [Nat.add_zero] at this; rw [this]
  ·have := NJ hn
   cases D k <;> cases D' k <;> simp [this, jY]
theorem MC {ws : List Wr} {n : Nat} (h : n ∈ mE ws) : ∃ v, kG ws n = some v := by
 induction ws with
 | nil => cases h
 | cons w ws ih =>
  cases w with
  | slot m v =>
   simp only [mE, List.filterMap_cons, List.mem_cons] at h
   simp only [kG]
   cases hl : kG ws n with
   | some x => exact ⟨x, rfl⟩
   | none =>
    rcases h with h | h
    ·exact ⟨v, by simp [h]⟩
    ·obtain ⟨x, hx⟩ := ih h; rw [hl] at hx; cases hx
  | obj m v => simp only [mE, List.filterMap_cons] at h; exact ih h
theorem ado {D : Nat → Bool} {n : Nat} : ∀ (es : List Eff) (k i : Nat) (e : Eff), es[i]? = some e → D (k + i) = true → n ∈ mE e.ws → (∀ j f, es[j]? = some f → i < j → D (k + j) = true → n ∉ mE f.ws) → kG (dG D k es) n = kG e.ws n := by
 intro es
 induction es with
 | nil => intro k i e h; simp at h
 | cons f es ih =>
  intro k i e hi hD hw hother
  simp only [dG, BU]
  cases i with
  | zero =>
   simp only [List.getElem?_cons_zero, Option.some.injEq] at hi; subst hi
   rw [Nat.add_zero] at hD
   have hrest : kG (dG D (k + 1) es) n = kG (dG (fun _ => false) (k + 1) es) n := Jp es (k + 1) (fun i g hg hn => by
    cases hDg : D (k + 1 + i) with
    | false => rfl
    | true => exact (hother (i + 1) g (by simpa using hg) (by omega) (by rw [show k + (i + 1) = k + 1 + i from by omega]; exact hDg) hn).elim)
   have hz : ∀ (es : List Eff) (k : Nat), dG (fun _ => false) k es = [] := fun es => by
    induction es with
    | nil => intro k; rfl
    | cons e es ih => intro k; simp [dG, ih]
   rw [hrest, hz, hD]; simp [kG]
  | succ i =>
   have := ih (k + 1) i e (by simpa using hi) (by rw [show k + 1 + i = k + (i + 1) from by omega]; exact hD) hw (fun j g hg hlt hDg => hother (j + 1) g (by simpa using hg) (by omega) (by rw [show k + (j + 1) = k + 1 + j from by omega]; exact hDg))
   rw [this]
   obtain ⟨v, hv⟩ := MC hw
   rw [hv]; rfl
theorem Od {ws : List Wr} {n : Nat} (h : n ∈ o9 ws) : ∃ v, jY ws n = some v := by
 induction ws with
 | nil => cases h
 | cons w ws ih =>
  cases w with
  | obj m v =>
   simp only [o9, List.filterMap_cons, List.mem_cons] at h
   simp only [jY]
   cases hl : jY ws n with
   | some x => exact ⟨x, rfl⟩
   | none =>
    rcases h with h | h
    ·exact ⟨v, by simp [h]⟩
    ·obtain ⟨x, hx⟩ := ih h; rw [hl] at hx; cases hx
  | slot m v => simp only [o9, List.filterMap_cons] at h; exact ih h
theorem ad4 {D : Nat → Bool} {n : Nat} : ∀ (es : List Eff) (k i : Nat) (e : Eff), es[i]? = some e → D (k + i) = true → n ∈ o9 e.ws → (∀ j f, es[j]? = some f → i < j → D (k + j) = true → n ∉ o9 f.ws) → jY (dG D k es) n = jY e.ws n := by
 intro es
 induction es with
 | nil => intro k i e h; simp at h
 | cons f es ih =>
  intro k i e hi hD hw hother
  simp only [dG, Bh]
  cases i with
  | zero =>
   simp only [List.getElem?_cons_zero, Option.some.injEq] at hi; subst hi
   rw [Nat.add_zero] at hD
   have hrest : jY (dG D (k + 1) es) n = jY (dG (fun _ => false) (k + 1) es) n := Jr es (k + 1) (fun i g hg hn => by
    cases hDg : D (k + 1 + i) with
    | false => rfl
    | true => exact (hother (i + 1) g (by simpa using hg) (by omega) (by rw [show k + (i + 1) = k + 1 + i from by omega]; exact hDg) hn).elim)
   have hz : ∀ (es : List Eff) (k : Nat), dG (fun _ => false) k es = [] := fun es => by
    induction es with
    | nil => intro k; rfl
    | cons e es ih => intro k; simp [dG, ih]
   rw [hrest, hz, hD]; simp [jY]
  | succ i =>
   have := ih (k + 1) i e (by simpa using hi) (by rw [show k + 1 + i = k + (i + 1) from by omega]; exact hD) hw (fun j g hg hlt hDg => hother (j + 1) g (by simpa using hg) (by omega) (by rw [show k + (j + 1) = k + 1 + j from by omega]; exact hDg))
   rw [this]
   obtain ⟨v, hv⟩ := Od hw
   rw [hv]; rfl
structure Agree (t s : ASt) (e : Eff) : Prop where
 tl : t.tmps.length = s.tmps.length
 hl : t.heap.length = s.heap.length
 rs : ∀ n ∈ e.rs, t.tmps.getD n .unk = s.tmps.getD n .unk
 ro : ∀ l ∈ e.ro, obj? t.heap l = obj? s.heap l
def zV (P : Program) (ops : Array Oper) (o : Oper) (s : ASt) (e : Eff) : Prop := ∀ t, Agree t s e → aea P ops o t (t.wr e.ws)
inductive ATr (P : Program) (ops : Array Oper) : List Oper → List Eff → ASt → ASt → Prop where
 | nil (s : ASt) : ATr P ops [] [] s s
 | cons {o : Oper} {l : List Oper} {e : Eff} {es : List Eff} {s s' : ASt} : zV P ops o s e → ATr P ops l es (s.wr e.ws) s' → ATr P ops (o :: l) (e :: es) s s'
theorem ATr.steps {P : Program} {ops : Array Oper} {l : List Oper} {es : List Eff} {s s' : ASt} (h : ATr P ops l es s s') : ASteps P ops l s s' := by
 induction h with
 | nil s => exact .nil s
 | cons he _ ih => exact .cons (he _ ⟨rfl, rfl, fun _ _ => rfl, fun _ _ => rfl⟩) ih
def uN (o : Oper) : List Nat := (o.after.toList.filter (Region.binds .any)).map (·.on)
def L9 : List Oper → List (List Nat) → List (List Nat)
 | [], acc => acc
 | o :: l, acc => L9 l (acc ++ [uN o ++ (uN o).flatMap fun p => acc.getD p []])
def j6 (e f : Eff) : Bool :=
 (mE e.ws).any (fun n => f.rs.contains n || (mE f.ws).contains n) || (mE f.ws).any (fun n => e.rs.contains n) ||
 (o9 e.ws).any (fun n => f.ro.contains n || (o9 f.ws).contains n) || (o9 f.ws).any (fun n => e.ro.contains n)
def Fj : Eff := ⟨[], [], []⟩
def oL (l : List Oper) (es : List Eff) : Bool :=
 (List.range l.length).all fun j => (uN (l.getD j default)).all (fun p => decide (p < j)) && (List.range j).all fun i => !(j6 (es.getD i Fj) (es.getD j Fj)) || ((L9 l []).getD j []).contains i
theorem Rl {D : Nat → Prop} : ∀ (l : List Oper) (acc : List (List Nat)), (∀ j i, D j → i ∈ acc.getD j [] → D i) → (∀ j o, l[j]? = some o → D (acc.length + j) → ∀ p ∈ uN o, D p) → ∀ j i, D j → i ∈ (L9 l acc).getD j [] → D i := by
 intro l
 induction l with
 | nil => intro acc h _ j i hj hi; exact h j i hj hi
 | cons o l ih =>
  intro acc h hc j i hj hi
  simp only [L9] at hi
  refine ih _ ?_ ?_ j i hj hi
  ·intro j i hj hi
   by_cases hlt : j < acc.length
   ·rw [List.getD, List.getElem?_append_left hlt] at hi; exact h j i hj hi
   ·by_cases he : j = acc.length
    ·subst he
     rw [List.getD, List.getElem?_append_right (Nat.le_refl _)] at hi
     simp only [Nat.sub_self, List.getElem?_cons_zero, Option.getD_some, List.mem_append, List.mem_flatMap] at hi
     have hp := hc 0 o (by simp) hj
     rcases hi with hi | ⟨p, hp1, hp2⟩
     ·exact hp i hi
     ·exact h p i (hp p hp1) hp2
    ·rw [List.getD, List.getElem?_eq_none (by simp; omega)] at hi; simp at hi
  ·intro j o' hj' hD p hp
   refine hc (j + 1) o' (by simpa using hj') ?_ p hp
   rw [List.length_append, List.length_singleton] at hD
   rwa [show acc.length + (j + 1) = acc.length + 1 + j from by omega]
theorem ATr.spec {P : Program} {ops : Array Oper} {l : List Oper} {es : List Eff} {s s' : ASt} (h : ATr P ops l es s s') : l.length = es.length ∧ s' = s.wr (dG (fun _ => true) 0 es) ∧
  ∀ i o e, l[i]? = some o → es[i]? = some e → zV P ops o (s.wr (dG (fun j => decide (j < i)) 0 es)) e := by
 have hz : ∀ (es : List Eff) (k : Nat), dG (fun _ => false) k es = [] := fun es => by
  induction es with
  | nil => intro k; rfl
  | cons e es ih => intro k; simp [dG, ih]
 have hcongr : ∀ (D D' : Nat → Bool) (es : List Eff) (k k' : Nat), (∀ i, D (k + i) = D' (k' + i)) → dG D k es = dG D' k' es := fun D D' es => by
  induction es with
  | nil => intro k k' _; rfl
  | cons e es ih =>
   intro k k' h
   simp only [dG]
   have h0 := h 0; rw [Nat.add_zero, Nat.add_zero] at h0
   rw [h0, ih (k + 1) (k' + 1) (fun i => by have := h (i + 1); rwa [show k + (i + 1) = k + 1 + i from by omega, show k' + (i + 1) = k' + 1 + i from by omega] at this)]
 induction h with
 | nil s => exact ⟨rfl, rfl, fun i o e h => by simp at h⟩
 | @cons o l e es s s' he _ ih =>
  obtain ⟨h1, h2, h3⟩ := ih
  refine ⟨by simp [h1], ?_, fun i o' e' hi hi' => ?_⟩
  ·rw [h2]; simp only [dG, if_true, CS]
   rw [hcongr (fun _ => true) (fun _ => true) es 0 1 (fun _ => rfl)]
  ·cases i with
   | zero =>
    simp only [List.getElem?_cons_zero, Option.some.injEq] at hi hi'
    subst hi hi'
    have : dG (fun j => decide (j < 0)) 0 (e :: es) = [] := by
     rw [hcongr (fun j => decide (j < 0)) (fun _ => false) (e :: es) 0 0 (fun i => by simp)]; exact hz _ _
    rw [this]; exact he
   | succ i =>
    have := h3 i o' e' (by simpa using hi) (by simpa using hi')
    have hf : dG (fun j => decide (j < i + 1)) 0 (e :: es) = e.ws ++ dG (fun j => decide (j < i)) 0 es := by
     simp only [dG]
     rw [if_pos (by simp)]
     rw [hcongr (fun j => decide (j < i + 1)) (fun j => decide (j < i)) es 1 0 (fun j => by rw [Bool.eq_iff_iff]; simp; omega)]
    rw [hf, CS]; exact this
theorem YU {e f : Eff} {n : Nat} (h : j6 e f = false) (he : n ∈ mE e.ws) : n ∉ f.rs ∧ n ∉ mE f.ws := by
 simp only [j6, Bool.or_eq_false_iff, List.any_eq_false] at h
 have := h.1.1.1 n he
 simp only [Bool.or_eq_true, List.contains_iff_mem, not_or] at this
 exact this
theorem Y2 {e f : Eff} {n : Nat} (h : j6 e f = false) (he : n ∈ o9 e.ws) : n ∉ f.ro ∧ n ∉ o9 f.ws := by
 simp only [j6, Bool.or_eq_false_iff, List.any_eq_false] at h
 have := h.1.2 n he
 simp only [Bool.or_eq_true, List.contains_iff_mem, not_or] at this
 exact this
theorem Zi {listed : Array Bool} {i : Nat} (hi : i < listed.size) (hf : listed.getD i true = false) : ((listed.setIfInBounds i true).toList.filter (!·)).length + 1 = (listed.toList.filter (!·)).length := by
 have key : ∀ (l : List Bool) (i : Nat), i < l.length → l.getD i true = false → ((l.set i true).filter (!·)).length + 1 = (l.filter (!·)).length := by
  intro l
  induction l with
  | nil => intro i hi; simp at hi
  | cons x l ih =>
   intro i hi hg
   cases i with
   | zero => simp [List.getD] at hg; subst hg; simp
   | succ i =>
    have := ih i (by simpa using hi) (by simpa [List.getD] using hg)
    cases x <;> simp [this]
 have := key listed.toList i (by simpa using hi) (by simpa [Array.getD_eq_getD_getElem?, List.getD] using hf)
 simpa using this
theorem ZR {P : Program} {l : List Oper} {es : List Eff} {s s' : ASt} {C : Ctx} {Q : Exit → Act → World → Prop} (htr : ATr P l.toArray l es s s') (hok : oL l es = true) (hq : ∀ κ' a' w', Sim C κ' s' a' w' → Q .normal a' w') :
  ∀ (fuel : Nat) (listed : Array Bool) (κ : bA) (a : Act) (w : World), listed.size = l.length → (listed.toList.filter (!·)).length = fuel →
   (∀ j o, l[j]? = some o → listed.getD j false = true → ∀ p ∈ uN o, listed.getD p false = true) →
   Sim C κ (s.wr (dG (fun i => listed.getD i false) 0 es)) a w → wpAny P .any l.toArray Q fuel listed a w := by
 obtain ⟨hlen, hs', heff⟩ := htr.spec
 have hord : ∀ j, j < l.length → (∀ p ∈ uN (l.getD j default), p < j) ∧ ∀ i, i < j → j6 (es.getD i Fj) (es.getD j Fj) = true → i ∈ (L9 l []).getD j [] := fun j hj => by
  have := List.all_eq_true.1 hok j (List.mem_range.2 hj)
  simp only [Bool.and_eq_true, List.all_eq_true, decide_eq_true_eq, List.mem_range, Bool.or_eq_true, Bool.not_eq_true', List.contains_iff_mem] at this
  refine ⟨this.1, fun i hi hc => ?_⟩
  rcases this.2 i hi with h | h
  ·rw [hc] at h; cases h
  ·exact h
 have hall : ∀ (listed : Array Bool), listed.size = l.length → Region.ready .any l.toArray listed = [] → ∀ i, i < l.length → listed.getD i false = true := by
  intro listed hsz hr i
  induction i using Nat.strongRecOn with
  | _ i ih =>
   intro hi
   cases hb : listed.getD i false with
   | true => rfl
   | false =>
    exfalso
    have hlt : i < listed.size := by omega
    have : i ∈ Region.ready .any l.toArray listed := by
     refine mem_ready.2 ⟨?_, l[i], by simp [hi], fun e he hbd => ?_⟩
     ·simpa [Array.getD, hlt] using hb
     ·have hp := (hord i hi).1 e.on (by
       simp only [uN, List.getD, List.getElem?_eq_getElem hi, Option.getD_some]
       exact List.mem_map.2 ⟨e, List.mem_filter.2 ⟨by simpa using he, hbd⟩, rfl⟩)
      exact ih e.on hp (by omega)
    rw [hr] at this; cases this
 have hdone : ∀ (listed : Array Bool) (κ : bA) (a : Act) (w : World), listed.size = l.length → Region.ready .any l.toArray listed = [] → Sim C κ (s.wr (dG (fun i => listed.getD i false) 0 es)) a w → Q .normal a w := by
  intro listed κ a w hsz hr hsim
  have ha := hall listed hsz hr
  refine hq κ a w ?_
  have : s.wr (dG (fun i => listed.getD i false) 0 es) = s' := by
   rw [hs']
   refine ASt.ext' (by rw [(jK _ s).1, (jK _ s).1]) (by rw [(jK _ s).2, (jK _ s).2]) (fun n hn => ?_) (fun n hn => ?_)
   ·rw [(jK _ s).1] at hn
    rw [AX _ n s hn, AX _ n s hn]
    rw [Jp (D' := fun _ => true) es 0 (fun i e hi _ => by rw [Nat.zero_add]; exact ha i (by have := (List.getElem?_eq_some_iff.1 hi).1; omega))]
   ·rw [(jK _ s).2] at hn
    rw [EC _ n s hn, EC _ n s hn]
    rw [Jr (D' := fun _ => true) es 0 (fun i e hi _ => by rw [Nat.zero_add]; exact ha i (by have := (List.getElem?_eq_some_iff.1 hi).1; omega))]
  rw [← this]; exact hsim
 intro fuel
 induction fuel with
 | zero =>
  intro listed κ a w hsz hcnt _ hsim
  have hr : Region.ready .any l.toArray listed = [] := by
   cases hrd : Region.ready .any l.toArray listed with
   | nil => rfl
   | cons i r =>
    exfalso
    have hm : i ∈ Region.ready .any l.toArray listed := by rw [hrd]; simp
    obtain ⟨h1, o, h2, _⟩ := mem_ready.1 hm
    have hlt : i < listed.size := by have := (Array.getElem?_eq_some_iff.1 h2).1; simp at this; omega
    have := Zi hlt h1
    omega
  exact ⟨hr, hdone listed κ a w hsz hr hsim⟩
 | succ fuel ih =>
  intro listed κ a w hsz hcnt hdown hsim
  refine ⟨fun hr => hdone listed κ a w hsz hr hsim, fun i hi => ?_⟩
  obtain ⟨h1, o, h2, h3⟩ := mem_ready.1 hi
  have hil : i < l.length := by have := (Array.getElem?_eq_some_iff.1 h2).1; simpa using this
  have hlo : l[i]? = some o := by simpa using h2
  have hlt : i < listed.size := by omega
  have hi0 : listed.getD i false = false := by simpa [Array.getD, hlt] using h1
  obtain ⟨e, hei⟩ : ∃ e, es[i]? = some e := ⟨_, List.getElem?_eq_getElem (by omega)⟩
  have hgi : es.getD i Fj = e := by rw [List.getD, hei]; rfl
  -- where something conflicts with i
  have hbd : ∀ j i', listed.getD j false = true → i' ∈ (L9 l []).getD j [] → listed.getD i' false = true :=
   Rl (D := fun j => listed.getD j false = true) l [] (fun j i' _ hi' => by simp at hi') (fun j o' hj hD p hp => hdown j o' hj (by simpa using hD) p hp)
  have hearly : ∀ j f, es[j]? = some f → j < i → j6 f e = true → listed.getD j false = true := fun j f hj hji hc => by
   have hgj : es.getD j Fj = f := by rw [List.getD, hj]; rfl
   have hb := (hord i hil).2 j hji (by rw [hgj, hgi]; exact hc)
   have hD : ∀ j' i', (listed.getD j' false = true ∨ j' = i) → i' ∈ (L9 l []).getD j' [] → (listed.getD i' false = true ∨ i' = i) :=
    Rl (D := fun j => listed.getD j false = true ∨ j = i) l [] (fun j i' _ hi' => by simp at hi') (fun j' o' hj' hD p hp => by
     simp only [List.length_nil, Nat.zero_add] at hD
     rcases hD with hD | rfl
     ·exact .inl (hdown j' o' hj' hD p hp)
     ·rw [hlo] at hj'; cases hj'
      simp only [uN, List.mem_map, List.mem_filter] at hp
      obtain ⟨ed, ⟨he1, he2⟩, rfl⟩ := hp
      exact .inl (h3 ed (by simpa using he1) he2))
   rcases hD i j (.inr rfl) hb with h | h
   ·exact h
   ·omega
  have hlate : ∀ j f, es[j]? = some f → i < j → j6 e f = true → listed.getD j false = false := fun j f hj hji hc => by
   have hjl : j < l.length := by have := (List.getElem?_eq_some_iff.1 hj).1; omega
   have hgj : es.getD j Fj = f := by rw [List.getD, hj]; rfl
   have hb := (hord j hjl).2 i hji (by rw [hgj, hgi]; exact hc)
   cases hlj : listed.getD j false with
   | false => rfl
   | true => have := hbd j i hlj hb; rw [hi0] at this; cases this
  have hcommon : ∀ j f, es[j]? = some f → (j6 f e = true ∨ j6 e f = true → j ≠ i → listed.getD j false = decide (j < i)) := fun j f hj => by
   have hsym : j6 f e = true ↔ j6 e f = true := by
    simp only [j6, Bool.or_eq_true, List.any_eq_true, List.contains_iff_mem]
    constructor
    ·rintro (((⟨n, a1, a2 | a2⟩ | ⟨n, a1, a2⟩) | ⟨n, a1, a2 | a2⟩) | ⟨n, a1, a2⟩)
     ·exact .inl (.inl (.inr ⟨n, a1, a2⟩))
     ·exact .inl (.inl (.inl ⟨n, a2, .inr a1⟩))
     ·exact .inl (.inl (.inl ⟨n, a1, .inl a2⟩))
     ·exact .inr ⟨n, a1, a2⟩
     ·exact .inl (.inr ⟨n, a2, .inr a1⟩)
     ·exact .inl (.inr ⟨n, a1, .inl a2⟩)
    ·rintro (((⟨n, a1, a2 | a2⟩ | ⟨n, a1, a2⟩) | ⟨n, a1, a2 | a2⟩) | ⟨n, a1, a2⟩)
     ·exact .inl (.inl (.inr ⟨n, a1, a2⟩))
     ·exact .inl (.inl (.inl ⟨n, a2, .inr a1⟩))
     ·exact .inl (.inl (.inl ⟨n, a1, .inl a2⟩))
     ·exact .inr ⟨n, a1, a2⟩
     ·exact .inl (.inr ⟨n, a2, .inr a1⟩)
     ·exact .inl (.inr ⟨n, a1, .inl a2⟩)
   intro hc hne
   rcases Nat.lt_or_gt_of_ne hne with hlt' | hgt
   ·rw [hearly j f hj hlt' (hc.elim id hsym.2)]; simp [hlt']
   ·rw [hlate j f hj hgt (hc.elim hsym.1 id)]; simp; omega
  let D : Nat → Bool := fun j => listed.getD j false
  have hagree : Agree (s.wr (dG D 0 es)) (s.wr (dG (fun j => decide (j < i)) 0 es)) e := by
   refine ⟨by rw [(jK _ s).1, (jK _ s).1], by rw [(jK _ s).2, (jK _ s).2], fun n hn => ?_, fun n hn => ?_⟩
   ·by_cases hnl : n < s.tmps.length
    ·rw [AX _ n s hnl, AX _ n s hnl]
     congr 1
     refine Jp es 0 fun j f hj hw => ?_
     rw [Nat.zero_add]
     by_cases hji : j = i
     ·subst hji; show listed.getD j false = _; rw [hi0]; simp
     ·refine hcommon j f hj (.inl ?_) hji
      cases hc : j6 f e with
      | true => rfl
      | false => exact ((YU hc hw).1 hn).elim
    ·have e1 : (s.wr (dG D 0 es)).tmps.getD n .unk = .unk := by rw [List.getD, List.getElem?_eq_none (by rw [(jK _ s).1]; omega)]; rfl
     have e2 : (s.wr (dG (fun j => decide (j < i)) 0 es)).tmps.getD n .unk = .unk := by rw [List.getD, List.getElem?_eq_none (by rw [(jK _ s).1]; omega)]; rfl
     rw [e1, e2]
   ·by_cases hnl : n < s.heap.length
    ·rw [EC _ n s hnl, EC _ n s hnl]
     congr 1
     refine Jr es 0 fun j f hj hw => ?_
     rw [Nat.zero_add]
     by_cases hji : j = i
     ·subst hji; show listed.getD j false = _; rw [hi0]; simp
     ·refine hcommon j f hj (.inl ?_) hji
      cases hc : j6 f e with
      | true => rfl
      | false => exact ((Y2 hc hw).1 hn).elim
    ·have e1 : obj? (s.wr (dG D 0 es)).heap n = .dead := by rw [obj?, List.getElem?_eq_none (by rw [(jK _ s).2]; omega)]; rfl
     have e2 : obj? (s.wr (dG (fun j => decide (j < i)) 0 es)).heap n = .dead := by rw [obj?, List.getElem?_eq_none (by rw [(jK _ s).2]; omega)]; rfl
     rw [e1, e2]
  have hstep := heff i o e hlo hei _ hagree
  have hDi : ∀ j, (listed.setIfInBounds i true).getD j false = (D j || decide (j = i)) := fun j => by
   by_cases hji : i = j
   ·subst hji; simp [Array.getD, hlt]
   ·simp only [Array.getD_eq_getD_getElem?, Array.getElem?_setIfInBounds_ne hji, D]
    simp [Ne.symm hji]
  have hstate : (s.wr (dG D 0 es)).wr e.ws = s.wr (dG (fun j => (listed.setIfInBounds i true).getD j false) 0 es) := by
   rw [← CS]
   refine ASt.ext' (by rw [(jK _ s).1, (jK _ s).1]) (by rw [(jK _ s).2, (jK _ s).2]) (fun n hn => ?_) (fun n hn => ?_)
   ·rw [(jK _ s).1] at hn
    rw [AX _ n s hn, AX _ n s hn, BU]
    congr 1
    by_cases hw : n ∈ mE e.ws
    ·rw [ado (D := fun j => (listed.setIfInBounds i true).getD j false) es 0 i e hei (by rw [Nat.zero_add, hDi]; simp) hw (fun j f hj hij hD' hwf => by
      rw [Nat.zero_add, hDi] at hD'
      have hji : j ≠ i := by omega
      have hDj : listed.getD j false = true := by simpa [hji, D] using hD'
      have hc : j6 f e = true := by
       cases hc : j6 f e with
       | true => rfl
       | false => exact ((YU hc hwf).2 hw).elim
      have := hcommon j f hj (.inl hc) hji
      rw [hDj] at this
      have hlt' : j < i := by simpa using this.symm
      omega)]
     obtain ⟨v, hv⟩ := MC hw
     rw [hv]; rfl
    ·rw [OB hw, Option.none_or]
     refine Jp es 0 fun j f hj hwf => ?_
     rw [Nat.zero_add, hDi]
     have hji : j ≠ i := fun e' => by subst e'; rw [hei] at hj; cases hj; exact hw hwf
     simp [hji, D]
   ·rw [(jK _ s).2] at hn
    rw [EC _ n s hn, EC _ n s hn, Bh]
    congr 1
    by_cases hw : n ∈ o9 e.ws
    ·rw [ad4 (D := fun j => (listed.setIfInBounds i true).getD j false) es 0 i e hei (by rw [Nat.zero_add, hDi]; simp) hw (fun j f hj hij hD' hwf => by
      rw [Nat.zero_add, hDi] at hD'
      have hji : j ≠ i := by omega
      have hDj : listed.getD j false = true := by simpa [hji, D] using hD'
      have hc : j6 f e = true := by
       cases hc : j6 f e with
       | true => rfl
       | false => exact ((Y2 hc hwf).2 hw).elim
      have := hcommon j f hj (.inl hc) hji
      rw [hDj] at this
      have hlt' : j < i := by simpa using this.symm
      omega)]
     obtain ⟨v, hv⟩ := Od hw
     rw [hv]; rfl
    ·rw [NJ hw, Option.none_or]
     refine Jr es 0 fun j f hj hwf => ?_
     rw [Nat.zero_add, hDi]
     have hji : j ≠ i := fun e' => by subst e'; rw [hei] at hj; cases hj; exact hw hwf
     simp [hji, D]
  have hnext : ∀ κ' a' w', Sim C κ' ((s.wr (dG D 0 es)).wr e.ws) a' w' → wpAny P .any l.toArray Q fuel (listed.setIfInBounds i true) a' w' := fun κ' a' w' hs2 => by
   rw [hstate] at hs2
   refine ih (listed.setIfInBounds i true) κ' a' w' (by simpa using hsz) (by have := Zi hlt h1; omega) ?_ hs2
   intro j o' hj hlj p hp
   rw [hDi] at hlj ⊢
   by_cases hji : j = i
   ·subst hji
    rw [hlo] at hj; cases hj
    simp only [uN, List.mem_map, List.mem_filter] at hp
    obtain ⟨ed, ⟨he1, he2⟩, rfl⟩ := hp
    have := h3 ed (by simpa using he1) he2
    simp only [D, this, Bool.true_or]
   ·have hlj' : listed.getD j false = true := by simpa [hji, D] using hlj
    have := hdown j o' hj hlj' p hp
    simp only [D, this, Bool.true_or]
  unfold wpOp
  rw [h2]
  dsimp only
  rcases hstep with ⟨hwd, ht⟩ | ⟨hwd, he⟩
  ·rw [xS hsim hwd]
   simp only [if_true]
   exact .inl (ht C κ a w hsim _ _ hnext)
  ·rw [xS hsim hwd]
   simp only [Bool.false_eq_true, if_false]
   refine hnext κ _ w ?_
   rw [he]
   exact hsim.aM _ oN
theorem bX.drawn {P : Program} {id : Nat} {l : List Oper} {es : List Eff} {Q : Exit → ASt → Prop} {s s' : ASt} (n : Nat) (hm : P.follows .mixedOrders = true) (h : ATr P l.toArray l es (s.reserve n) s') (hok : oL l es = true) (hq : Q .normal s') : bX P (.region id l.toArray true) Q s := by
 intro C κ a w hs
 refine wp_region_any hm ?_
 have hr := (hs.reserve n).sameHeap (w' := { w with drawn := w.drawn + 1 }) rfl rfl rfl rfl
 have hfl : dG (fun i => (Array.replicate l.length false).getD i false) 0 es = [] := by
  have hz : ∀ (D : Nat → Bool) (es : List Eff) (k : Nat), (∀ i, D i = false) → dG D k es = [] := fun D es => by
   induction es with
   | nil => intro k _; rfl
   | cons e es ih => intro k hD; simp [dG, ih _ hD, hD]
  refine hz _ es 0 fun i => ?_
  simp [Array.getD]
 have := ZR (C := C) (Q := fun e a' w' => ∃ s'' κ', Q e s'' ∧ Sim C κ' s'' a' w') h hok (fun κ' a' w' hs' => ⟨s', κ', hq, hs'⟩) l.length (Array.replicate l.length false) _ a _ (by simp) (by simp) (fun j o _ hl => by simp [Array.getD] at hl) (by rw [hfl]; exact hr)
 simpa using this
def vI (P : Program) (s : ASt) : List ResultVar → Option (List AV)
 | [] => some []
 | .tmp t :: r => (vI P s r).map (s.tmps.getD t .unk :: ·)
 | .cell a t :: r => match s.tmps.getD a .unk with
  | .ptr l off => match obj? s.heap l with
   | .box cs => match iV P t (cs.drop off) with
    | some v => (vI P s r).map (v :: ·)
    | none => none
   | _ => none
  | _ => none
def xA (wk : Bool) : List AV → AV
 | [x] => if wk then qj x else x
 | xs => .tup (if wk then xs.map qj else xs)
def Ii (tmps : Array Value) : ResultVar → Sem Value
 | .tmp t => pure (tmps.getD t undef)
 | .cell a t => do loadVar t (← asAddr (tmps.getD a undef))
theorem M0 (fn : Func) (tmps : Array Value) : results fn tmps = (do let vs ← fn.results.mapM (Ii tmps); pure (if h : vs.size = 1 then vs[0] else .tuple vs)) := by
 unfold results
 congr 1
theorem KH {P : Program} {C : Ctx} {κ : bA} {s : ASt} {a : Act} {w : World} (hs : Sim C κ s a w) : ∀ (rs : List ResultVar) (xs : List AV), vI P s rs = some xs →
  ∃ vs : List Value, vs.length = xs.length ∧ (∀ j, j < xs.length → Rel w κ (aP C.aO κ s.heap) (xs.getD j .unk) (vs.getD j undef)) ∧ (rs.mapM (Ii a.tmps)).run P w = .ok vs w := by
 intro rs
 induction rs with
 | nil => intro xs h; simp only [vI, Option.some.injEq] at h; subst h; exact ⟨[], rfl, fun j hj => (by cases hj), by simp⟩
 | cons r rs ih =>
  intro xs h
  have key : ∀ (v : AV) (u : Value) (ys : List AV), vI P s rs = some ys → xs = v :: ys → Rel w κ (aP C.aO κ s.heap) v u → (Ii a.tmps r).run P w = .ok u w →
    ∃ vs : List Value, vs.length = xs.length ∧ (∀ j, j < xs.length → Rel w κ (aP C.aO κ s.heap) (xs.getD j .unk) (vs.getD j undef)) ∧ ((r :: rs).mapM (Ii a.tmps)).run P w = .ok vs w := fun v u ys hys hxs hv hrun => by
   obtain ⟨vs, h1, h2, h3⟩ := ih ys hys
   subst hxs
   refine ⟨u :: vs, by simp [h1], fun j hj => ?_, ?_⟩
   ·cases j with
    | zero => simpa [List.getD] using hv
    | succ j => have := h2 j (by simpa using hj); simpa [List.getD] using this
   ·rw [List.mapM_cons]
    simp only [Sem.run_bind, hrun, Result.andThen_ok, h3, Sem.run_pure]
  cases r with
  | tmp t =>
   simp only [vI] at h
   cases hys : vI P s rs with
   | none => rw [hys] at h; cases h
   | some ys =>
    rw [hys] at h; simp only [Option.map_some, Option.some.injEq] at h
    refine key _ (a.tmps.getD t undef) ys hys h.symm ?_ (by simp [Ii])
    exact hs.ev (.tmp t)
  | cell x t =>
   simp only [vI] at h
   split at h
   ·rename_i l off hx
    split at h
    ·rename_i cs hl
     split at h
     ·rename_i v hv
      cases hys : vI P s rs with
      | none => rw [hys] at h; cases h
      | some ys =>
       rw [hys] at h; simp only [Option.map_some, Option.some.injEq] at h
       have hr := hs.ev (.tmp x)
       simp only [cK, Act.eval] at hr
       rw [hx] at hr
       obtain ⟨b, e, hb⟩ := hr.oI
       obtain ⟨c, el, g1, g2, g3, g4⟩ := hs.box hb hl
       obtain ⟨y, g5, g6⟩ := yj (P := P) (w := w) (κ := κ) (pv := aP C.aO κ s.heap) (b := b) (off := off) (cs := cs.drop off) (fun j => c.getD (off + j) undef)
        (fun j hj => g3 _ (by simp at hj; omega)) (fun j hj => by rw [getD_drop]; exact g4 _ (by simp at hj; omega)) hv
       exact key v y ys hys h.symm g6 (by simp only [Ii, e]; simp [asAddr, g5])
     ·cases h
    ·cases h
   ·cases h
def wD (P : Program) (rs : List ResultVar) (wk : Bool) (L : List Nat) (H : List AObj) (res : AV) (H' : List AObj) (s : ASt) : Prop :=
 ∃ xs, vI P s rs = some xs ∧ xA wk xs = ren (nm L s.heap.length) res ∧ L.Nodup ∧ H'.length = L.length ∧ H.length ≤ L.length ∧ (∀ i, i < H.length → L[i]? = some i) ∧ (∀ l ∈ L, l < s.heap.length) ∧
  ∀ i l, L[i]? = some l → obj? s.heap l = bS (nm L s.heap.length) (obj? H' i)
def FQ (R : ASt → Prop) : Exit → ASt → Prop
 | .normal, s => R s
 | .ret, s => R s
 | _, _ => False
def bodyC (κ : bA) (aO : bN) (H : List AObj) (w : World) (ds : List Deferred) : Ctx := { aO := aO, old := fun b => b < w.heap.size ∧ ∀ l, at? κ l = some b → ¬ live (obj? H l), w0 := w, k0 := κ, pvE := aP aO κ H, ds := ds }
theorem O8 {P : Program} {fn : Func} {H H' : List AObj} {res : AV} {wk : Bool} {L : List Nat} {κ : bA} {aO : bN} {w : World} (hen : Entry κ aO H w) (ds : List Deferred) (s : ASt) (κf : bA) (a : Act) (w' : World) (hq : wD P fn.results.toList wk L H res H' s) (hs : Sim (bodyC κ aO H w ds) κf s a w') :
  ∃ v, (results fn a.tmps).run P w' = .ok v w' ∧ ∃ v' κ', Ending.returned v = .returned v' ∧ Leave κ κ' aO H H' w w' ∧ Rel w' κ' (aP aO κ' H') res v' := by
 obtain ⟨xs, q1, q2, q3, q4, q5, q6, q7, q8⟩ := hq
 obtain ⟨us, u1, u2, u3⟩ := KH hs _ _ q1
 let κ' : bA := L.map (at? κf)
 let g := nm L s.heap.length
 have hat : ∀ i b, at? κ' i = some b → ∃ l, L[i]? = some l ∧ at? κf l = some b := fun i b hb => by
  simp only [κ'] at hb; rw [at?_map] at hb
  cases hi : L[i]? with
  | none => rw [hi] at hb; cases hb
  | some l => rw [hi] at hb; exact ⟨l, rfl, hb⟩
 have hdown : ∀ i, at? κ' i = at? κf (g i) := fun i => by
  simp only [κ', g, nm]; rw [at?_map]
  cases hi : L[i]? with
  | some l => rfl
  | none => simp only [Option.getD_none]; rw [at?_none_of_le (by rw [hs.klen]; exact Nat.le_refl _)]
 have hpv : ∀ b o, aP aO κ' H' b o → aP aO κf s.heap b o := by
  rintro b o (h | ⟨i, h1, h2⟩)
  ·exact .inl h
  ·obtain ⟨l, hl, hb⟩ := hat i b h1
   exact .inr ⟨l, hb, by rw [q8 i l hl, wN]; exact h2⟩
 have hrel : ∀ {x : AV} {u : Value}, Rel w' κf (aP aO κf s.heap) (ren g x) u → Rel w' κ' (aP aO κ' H') x u := fun hx =>
  (hx.uX hdown _ rfl).mono (Evo.refl _ _) (cZ.refl _) (fun b o h _ => hpv b o h)
 have hleave : Leave κ κ' aO H H' w w' := by
  refine ⟨by simp [κ', q4], by omega, ?_, ?_, ?_, ?_, ?_, ?_, ?_, hs.pY, fun b o h hlt => hs.pvsub b o (hpv b o h) hlt, hs.os, hs.tape, hs.output⟩
  ·intro i b hb
   have hi : i < H.length := by rw [← hen.klen]; exact lt_of_at? hb
   rw [hdown i]
   have : g i = i := by simp only [g, nm, q6 i hi]; rfl
   rw [this]; exact hs.kext i b hb
  ·intro i hi
   rw [hdown i]
   cases h0 : L[i]? with
   | none => simp only [g, nm, h0, Option.getD_none]; exact at?_none_of_le (by rw [hs.klen]; exact Nat.le_refl _)
   | some l =>
    simp only [g, nm, h0, Option.getD_some]
    exact hs.resv l (by rw [q8 i l h0, hi]; rfl)
  ·intro i b h1 h2
   obtain ⟨l, hl, hb⟩ := hat i b h1
   have := hs.obj l b hb (by rw [q8 i l hl, fM]; exact h2)
   rw [q8 i l hl] at this
   exact (this.uX hdown).mono rfl (Evo.refl _ _) (cZ.refl _) (fun b o h _ => hpv b o h)
  ·intro i b h1 h2
   obtain ⟨l, hl, hb⟩ := hat i b h1
   have hno := hs.own l b hb (by rw [q8 i l hl, fM]; exact h2)
   by_cases hlt : b < w.heap.size
   ·right
    apply Classical.byContradiction
    intro hne
    exact hno ⟨hlt, fun l0 h0 hlv => hne ⟨l0, h0, hlv⟩⟩
   ·left; omega
  ·intro i j b h1 h2 h3 h4
   obtain ⟨l, hl, hb⟩ := hat i b h1
   obtain ⟨l', hl', hb'⟩ := hat j b h2
   have e := hs.apart l l' b hb hb' (by rw [q8 i l hl, fM]; exact h3) (by rw [q8 j l' hl', fM]; exact h4)
   subst e
   exact (List.getElem?_inj (List.getElem?_eq_some_iff.1 hl).1 q3).1 (hl.trans hl'.symm)
  ·intro i b h1
   obtain ⟨l, _, hb⟩ := hat i b h1
   exact hs.bound l b hb
  ·intro b hb hnl
   exact hs.old b ⟨hb, hnl⟩
 have hresrel : ∀ (x : AV) (u : Value), Rel w' κf (aP aO κf s.heap) x u → Rel w' κf (aP aO κf s.heap) (if wk then qj x else x) u := fun x u hx => by
  cases wk
  ·exact hx
  ·exact hx.qj
 have hrun : ∃ v, (results fn a.tmps).run P w' = .ok v w' ∧ Rel w' κf (aP aO κf s.heap) (xA wk xs) v := by
  have hm : (fn.results.mapM (Ii a.tmps)).run P w' = .ok us.toArray w' := by
   rw [Array.mapM_eq_mapM_toList]
   simp only [Sem.run_map, u3, Result.andThen_ok]
  rw [M0]
  simp only [Sem.run_bind, hm, Result.andThen_ok, Sem.run_pure]
  by_cases h1 : us.length = 1
  ·match us, h1 with
   | [u], _ =>
    match xs, u1 with
    | [x], _ =>
     refine ⟨u, by simp, ?_⟩
     have := u2 0 (by simp)
     simp only [List.getD, List.getElem?_cons_zero, Option.getD_some] at this
     exact hresrel x u this
  ·refine ⟨.tuple us.toArray, by simp [h1], ?_⟩
   have hx : xA wk xs = .tup (if wk then xs.map qj else xs) := by
    match xs, u1 with
    | [], _ => rfl
    | [x], h => exact (h1 (by simpa using h)).elim
    | _ :: _ :: _, _ => rfl
   rw [hx]
   refine .tup (by split <;> simp [u1]) fun j hj => ?_
   have hj' : j < xs.length := by split at hj <;> simpa using hj
   have := hresrel _ _ (u2 j hj')
   cases wk
   ·exact this
   ·simp only [if_true] at this ⊢
    have e : (xs.map qj).getD j .unk = qj (xs.getD j .unk) := by simp [List.getD, List.getElem?_eq_getElem hj']
    rw [e]; exact this
 obtain ⟨v, hv1, hv2⟩ := hrun
 rw [q2] at hv2
 exact ⟨v, hv1, v, κ', rfl, hleave, hrel hv2⟩
theorem zA {P : Program} {f : Nat} {fn : Func} {c : Code} {args : List AV} {H H' : List AObj} {res : AV} (wk : Bool) (L : List Nat) (hf : P.funcs[f]? = some fn) (hb : fn.body = some c) (hlen : args.length ≤ fn.ntmps)
  (h : bX P c (FQ (wD P fn.results.toList wk L H res H')) ⟨args ++ List.replicate (fn.ntmps - args.length) (.tup []), H⟩) : aA P f args H res H' := by
 intro κ aO w vs hen hvl hr
 let C : Ctx := bodyC κ aO H w []
 refine calls_of_wp hf hb ?_
 have hsim : Sim C κ ⟨args ++ List.replicate (fn.ntmps - args.length) (.tup []), H⟩ { tmps := vs.toArray ++ Array.replicate (fn.ntmps - vs.toArray.size) undef, defers := [] } w := by
  refine ⟨rfl, by simp [hvl], ?_, hen.klen, cZ.refl _, hen.resv, hen.obj, hen.apart, fun l b h1 h2 ho => ho.2 l h1 h2, hen.bound, fun b o h => ⟨hen.pvlt b o h, fun l hl => hen.pvdis b o l h hl⟩, fun b hb => hb.1, fun _ _ => rfl, rfl, rfl, rfl, Nat.le_refl _, fun _ _ h _ => h, Evo.refl _ _⟩
  intro n hn
  simp only [List.length_append, List.length_replicate] at hn
  by_cases hlt : n < args.length
  ·have e1 : (args ++ List.replicate (fn.ntmps - args.length) (AV.tup [])).getD n .unk = args.getD n .unk := by simp [List.getD, List.getElem?_append_left hlt]
   have e2 : (vs.toArray ++ Array.replicate (fn.ntmps - vs.toArray.size) undef).getD n undef = vs.getD n undef := by
    rw [Array.getD_eq_getD_getElem?, Array.getElem?_append_left (by simp; omega)]; simp [List.getD]
   rw [e1, e2]; exact hr n hlt
  ·have e1 : (args ++ List.replicate (fn.ntmps - args.length) (AV.tup [])).getD n .unk = .tup [] := by
    rw [List.getD, List.getElem?_append_right (Nat.le_of_not_lt hlt), List.getElem?_replicate, if_pos (by omega)]; rfl
   have e2 : (vs.toArray ++ Array.replicate (fn.ntmps - vs.toArray.size) undef).getD n undef = undef := by
    rw [Array.getD_eq_getD_getElem?, Array.getElem?_append_right (by simp; omega), Array.getElem?_replicate]
    split <;> rfl
   rw [e1, e2]; exact oN
 have hfin : ∀ (s : ASt) (κf : bA) (a : Act) (w' : World), wD P fn.results.toList wk L H res H' s → Sim C κf s a w' → a.defers = [] ∧ ∃ v, (results fn a.tmps).run P w' = .ok v w' ∧ ∃ v' κ', Ending.returned v = .returned v' ∧ Leave κ κ' aO H H' w w' ∧ Rel w' κ' (aP aO κ' H') res v' := fun s κf a w' hq hs => ⟨hs.defers, O8 hen [] s κf a w' hq hs⟩
 refine wp_mono (h C κ _ w hsim) ?_
 rintro e a w' ⟨s, κf, hq, hs⟩
 cases e with
 | normal => exact hfin s κf a w' hq hs
 | ret => exact hfin s κf a w' hq hs
 | exit id => exact hq.elim
 | goto l => exact hq.elim
 | panic c => exact hq.elim
 | outgrown => exact hq.elim
def bI (ops : Array Oper) (o : Oper) : List Nat :=
 (o.op.operands.toList.filterMap fun | .tmp t => some t | _ => none) ++ (match o.guard with | some (g, _) => ((ops[g]?).bind (·.dst)).toList | none => [])
theorem Qx {tm tm' : List AV} {ops : Array Oper} {o : Oper} (h : ∀ n ∈ bI ops o, tm'.getD n .unk = tm.getD n .unk) : ∀ x ∈ o.op.operands, cK tm' x = cK tm x := by
 intro x hx
 cases x with
 | tmp t => exact h t (List.mem_append_left _ (List.mem_filterMap.2 ⟨.tmp t, by simpa using hx, rfl⟩))
 | const v => rfl
 | func f => rfl
 | global g => rfl
theorem vX {tm tm' : List AV} {ops : Array Oper} {o : Oper} (h : ∀ n ∈ bI ops o, tm'.getD n .unk = tm.getD n .unk) : gu ops tm' o = gu ops tm o := by
 unfold gu
 cases hg : o.guard with
 | none => rfl
 | some p =>
  obtain ⟨j, want⟩ := p
  simp only
  cases hd : (ops[j]?).bind (·.dst) with
  | none => rfl
  | some d =>
   simp only
   rw [h d (by unfold bI; rw [hg]; simp [hd])]
theorem y9 {P : Program} {ops : Array Oper} {o : Oper} {s : ASt} {k : Nat} {rd : List Nat} {ws : List Wr} (hw : gu ops s.tmps o = some true) (h : aZ P k o (cK s.tmps) (obj? s.heap) = some (rd, ws)) : zV P ops o s ⟨bI ops o, rd, ws⟩ := by
 intro t ht
 refine .inl ⟨by rw [vX ht.rs]; exact hw, Z6 (k := k) (rd := rd) ?_⟩
 exact UK h (Qx ht.rs) ht.ro
theorem yL {P : Program} {ops : Array Oper} {o : Oper} {s : ASt} (hw : gu ops s.tmps o = some false) : zV P ops o s ⟨bI ops o, [], aM o.dst (.tup [])⟩ := by
 intro t ht
 exact .inr ⟨by rw [vX ht.rs]; exact hw, rfl⟩
inductive Keep {α : Type} (a : α) : Type where
 | mk : Keep a
def xq (P : Program) (f : Nat) (args : List AV) (dst : Option Tmp) (s : ASt) (k : Nat) (K : Nat → List Nat → List Wr → Prop) (_ : Keep K) : Prop :=
 aY P f = true ∧ ∃ (ρ ks : List Nat) (aargs : List AV) (H : List AObj) (res : AV) (H' : List AObj), Passes s ρ ks H ∧ H'.length = (ρ ++ ks).length ∧ SWs args (aargs.map (ren (nm (ρ ++ ks) s.heap.length))) ∧ aA P f aargs H res H' ∧
  K (k + ks.length) (ρ ++ ks) (ow (ρ ++ ks) (H'.map (bS (nm (ρ ++ ks) s.heap.length))) ++ aM dst (ren (nm (ρ ++ ks) s.heap.length) res))
theorem yZ {P : Program} {ops : Array Oper} {o : Oper} {s : ASt} {fo : Operand} {args : Array Operand} {argTypes : Array TypeId} {f : Nat} {caps aargs : List AV} {ρ ks : List Nat} {H H' : List AObj} {res : AV} (hw : gu ops s.tmps o = some true)
  (ho : o.op = .call { callee := .value fo, args, argTypes }) (hf : cK s.tmps fo = .func f caps) (hok : aY P f = true) (hp : Passes s ρ ks H) (hH : H'.length = (ρ ++ ks).length)
  (hargs : SWs (args.toList.map (cK s.tmps) ++ caps) (aargs.map (ren (nm (ρ ++ ks) s.heap.length)))) (hc : aA P f aargs H res H') :
  zV P ops o s ⟨bI ops o, ρ ++ ks, ow (ρ ++ ks) (H'.map (bS (nm (ρ ++ ks) s.heap.length))) ++ aM o.dst (ren (nm (ρ ++ ks) s.heap.length) res)⟩ := by
 intro t ht
 have hop := Qx ht.rs
 have hfo : fo ∈ o.op.operands := by rw [ho]; simp [Op.operands, Call.operands]
 have hp' : Passes t ρ ks H := by
  refine ⟨hp.nodup, hp.hlen, fun l hl => by rw [ht.hl]; exact hp.lt l hl, fun l hl => by rw [ht.ro l (List.mem_append_right _ hl)]; exact hp.res l hl, fun i l hi => ?_⟩
  rw [ht.ro l (List.mem_append_left _ (List.mem_of_getElem? hi)), ht.hl]; exact hp.obj i l hi
 have hmap : args.toList.map (cK t.tmps) = args.toList.map (cK s.tmps) := rT _ (fun x hx => hop x (by rw [ho]; simp only [Op.operands, Call.operands]; exact Array.mem_append.2 (.inr (Array.mem_toList_iff.1 hx))))
 have := adI (P := P) (o := o) (s := t) ho (by rw [hop fo hfo]; exact hf) hok hp' hH (by rw [hmap, ht.hl]; exact hargs) hc
 rw [ht.hl] at this
 exact .inl ⟨by rw [vX ht.rs]; exact hw, this⟩
def iw : Op → Nat
 | .alloc _ => 1
 | .box _ _ => 1
 | .makeMap _ _ => 1
 | .buildSlice _ _ _ => 1
 | .makeSlice _ _ _ => 1
 | .call { callee := .builtin .append, .. } => 1
 | _ => 0
def jR : Op → Option (Operand × Array Operand)
 | .call { callee := .value f, args, .. } => some (f, args)
 | _ => none
theorem sJ {op : Op} {f : Operand} {args : Array Operand} (h : jR op = some (f, args)) : ∃ t, op = .call { callee := .value f, args, argTypes := t } := by
 unfold jR at h
 split at h
 ·cases h; exact ⟨_, rfl⟩
 ·cases h
def FY (r : Option Bool) (A B : Prop) (_ : Keep (A, B)) : Prop := ∃ c, r = some c ∧ (c = true → A) ∧ (c = false → B)
def VT (r : Option (List Nat × List Wr)) (f : List Nat → List Wr → Prop) (_ : Keep f) : Prop := ∃ rd ws, r = some (rd, ws) ∧ f rd ws
def WY (v : AV) (f : Nat → List AV → Prop) (_ : Keep f) : Prop := ∃ fid caps, v = .func fid caps ∧ f fid caps
def sW (P : Program) (ops : Array Oper) : List Oper → Nat → List Eff → ASt → (List Eff → ASt → Prop) → Prop
 | [], _, es, s, K => K es.reverse s
 | o :: l, k, es, s, K => FY (gu ops s.tmps o)
   (match jR o.op with
    | some (f, args) => WY (cK s.tmps f) (fun fid caps => xq P fid (args.toList.map (cK s.tmps) ++ caps) o.dst s k (fun k' ro ws => sW P ops l k' (⟨bI ops o, ro, ws⟩ :: es) (s.wr ws) K) .mk) .mk
    | none => VT (aZ P k o (cK s.tmps) (obj? s.heap)) (fun rd ws => sW P ops l (k + iw o.op) (⟨bI ops o, rd, ws⟩ :: es) (s.wr ws) K) .mk)
   (sW P ops l k (⟨bI ops o, [], aM o.dst (.tup [])⟩ :: es) (s.wr (aM o.dst (.tup []))) K) .mk
theorem Kh {P : Program} {ops : Array Oper} : ∀ (l : List Oper) (k : Nat) (es : List Eff) (s : ASt) (K : List Eff → ASt → Prop), sW P ops l k es s K → ∃ es' s', ATr P ops l es' s s' ∧ K (es.reverse ++ es') s' := by
 intro l
 induction l with
 | nil => intro k es s K h; exact ⟨[], s, .nil s, by simpa [sW] using h⟩
 | cons o l ih =>
  intro k es s K h
  obtain ⟨c, hc, h1, h2⟩ := h
  have fin : ∀ (e : Eff) (k' : Nat), zV P ops o s e → sW P ops l k' (e :: es) (s.wr e.ws) K → ∃ es' s', ATr P ops (o :: l) es' s s' ∧ K (es.reverse ++ es') s' := fun e k' he hw => by
   obtain ⟨es', s', g1, g2⟩ := ih k' (e :: es) _ K hw
   exact ⟨e :: es', s', .cons he g1, by simpa using g2⟩
  cases c with
  | false => exact fin _ k (yL hc) (h2 rfl)
  | true =>
   have h1 := h1 rfl
   cases hcall : jR o.op with
   | none =>
    rw [hcall] at h1
    obtain ⟨rd, ws, g1, g2⟩ := h1
    exact fin _ _ (y9 hc g1) g2
   | some p =>
    obtain ⟨f, args⟩ := p
    rw [hcall] at h1
    obtain ⟨fid, caps, g1, hok, ρ, ks, aargs, H, res, H', g2, g3, g4, g5, g6⟩ := h1
    obtain ⟨t, ho⟩ := sJ hcall
    exact fin _ _ (yZ hc ho g1 hok g2 g3 g4 g5) g6
theorem bX.ag3 {P : Program} {id : Nat} {l : List Oper} {Q : Exit → ASt → Prop} {s : ASt} (n : Nat) (hm : P.follows .mixedOrders = true) (h : sW P l.toArray l s.heap.length [] (s.reserve n) fun es s' => oL l es = true ∧ Q .normal s') : bX P (.region id l.toArray true) Q s := by
 obtain ⟨es, s', h1, h2, h3⟩ := Kh _ _ _ _ _ h
 exact bX.drawn n hm h1 (by simpa using h2) h3
theorem bX.dP {P : Program} {x y : Code} {Q : Exit → ASt → Prop} {s : ASt} (h : ∀ K : ASt → Prop, (∀ s, bX P y Q s → K s) → bX P x (Jz K Q) s) : bX P (.seq x y) Q s := bX.seq (h _ fun _ h => h)
def Nv (P : Program) (f : Nat) (args : List AV) (res : AV) : Prop := (∀ g, args.map (ren g) = args) ∧ (∀ g, ren g res = res) ∧ aA P f args [] res []
theorem xq.pure {P : Program} {f : Nat} {args : List AV} {dst : Option Tmp} {s : ASt} {k : Nat} {K : Nat → List Nat → List Wr → Prop} {res : AV} (h : Nv P f args res) (hok : aY P f = true) (hK : K k [] (aM dst res)) : xq P f args dst s k K .mk := by
 refine ⟨hok, [], [], args, [], res, [], ⟨by simp, rfl, fun l hl => (by cases hl), fun l hl => (by cases hl), fun i l hi => by simp at hi⟩, rfl, by rw [h.1]; exact SWs.refl _, h.2.2, ?_⟩
 simp only [List.append_nil, List.length_nil, Nat.add_zero, List.map_nil, ow, List.nil_append, h.2.1]
 exact hK
theorem aar {P : Program} {f : Nat} {fn : Func} {c : Code} {args : List AV} {res : AV} (ha : ∀ g, args.map (ren g) = args) (hr : ∀ g, ren g res = res) (hf : P.funcs[f]? = some fn) (hb : fn.body = some c) (hlen : args.length ≤ fn.ntmps)
  (h : bX P c (FQ fun s => ∃ xs, vI P s fn.results.toList = some xs ∧ xA true xs = res) ⟨args ++ List.replicate (fn.ntmps - args.length) (.tup []), []⟩) : Nv P f args res := by
 refine ⟨ha, hr, zA true [] hf hb hlen (h.mono ?_)⟩
 intro e s hq
 have key : (∃ xs, vI P s fn.results.toList = some xs ∧ xA true xs = res) → wD P fn.results.toList true [] [] res [] s := fun ⟨xs, h1, h2⟩ =>
  ⟨xs, h1, by rw [hr]; exact h2, by simp, rfl, by simp, fun i hi => (by cases hi), fun l hl => (by cases hl), fun i l hi => by simp at hi⟩
 cases e <;> first | exact key hq | exact hq.elim
section
variable {P : Program} {k : Nat} {d : Option Tmp} {ty : TypeId} {ps : String} {af : Array Edge} {gd : Option (Nat × Bool)} {ρ : Operand → AV} {σ : Nat → AObj}
def jQ (d : Option Tmp) (r : Option AV) : Option (List Nat × List Wr) := r.map fun v => ([], aM d v)
def Ur (P : Program) (t : TypeId) (σ : Nat → AObj) (d : Option Tmp) : AV → Option (List Nat × List Wr)
 | .eptr cs => jQ d (iV P t cs)
 | .ptr l off => match σ l with
  | .box cs => (iV P t (cs.drop off)).map fun v => ([l], aM d v)
  | .arr z es => if off = off / z * z ∧ off / z < es.length then (iV P t (es.getD (off / z) [])).map fun v => ([l], aM d v) else none
  | _ => none
 | _ => none
def OH (P : Program) (t : TypeId) (σ : Nat → AObj) (d : Option Tmp) : AV → Option (List AV) → Option (List Nat × List Wr)
 | .ptr l off, some vs => match σ l with
  | .box cs => if sizeT P t = some vs.length ∧ off + vs.length ≤ cs.length ∧ vs.all isScalar then some ([l], .obj l (.box (cs.take off ++ vs ++ cs.drop (off + vs.length))) :: aM d (.tup [])) else none
  | .arr z es => if sizeT P t = some vs.length ∧ vs.length = z ∧ off = off / z * z ∧ off / z < es.length ∧ vs.all isScalar then some ([l], .obj l (.arr z (es.set (off / z) vs)) :: aM d (.tup []))
   else if sizeT P t = some vs.length ∧ 0 < z ∧ off / z < es.length ∧ off % z + vs.length ≤ z ∧ vs.all isScalar then some ([l], .obj l (.arr z (es.set (off / z) ((es.getD (off / z) []).take (off % z) ++ vs ++ (es.getD (off / z) []).drop (off % z + vs.length)))) :: aM d (.tup [])) else none
  | _ => none
 | _, _ => none
def adu (x : AV) : Option AV := match x with | .ptr l o => some (.ptr l o) | .eptr cs => some (.eptr cs) | .func f cs => some (.func f cs) | .flist (cs :: r) => some (.eptr (cs ++ [.flist r])) | _ => none
def unK (op : UnOp) (x : AV) : Option AV := match op, x with | .not, .bool b => some (.bool (!b)) | .neg, .int k n => some (.int k (k.wrap (0 - n))) | _, _ => none
def M7 (f : Option (Nat × TypeId)) (x : AV) : Option AV := match f with | some (fo, _) => (match x with | .ptr l o => some (.ptr l (o + fo)) | .eptr cs => some (.eptr (cs.drop fo)) | _ => none) | none => none
def ad6 (st : Bool) (sl : Option Nat) (x : AV) : Option AV := match x with | .str s => if st then some (.int .i64 s.length) else none | .slice es _ => if sl.isSome then some (.int .i64 es.length) else none | .psl _ _ n => if sl.isSome then some (.int .i64 n) else none | _ => none
theorem Zc (t : Nat) (x : Operand) : aZ P k ⟨d, .load t x, ty, ps, af, gd⟩ ρ σ = Ur P t σ d (ρ x) := by
 unfold aZ
 simp only [aV]
 cases ρ x <;> simp only [Ur]
 case eptr cs => cases iV P t cs <;> rfl
 case ptr l off => cases σ l <;> rfl
theorem LV (t : Nat) (x y : Operand) : aZ P k ⟨d, .store t x y, ty, ps, af, gd⟩ ρ σ = OH P t σ d (ρ x) (iR (ρ y)) := rfl
theorem adh (t : Nat) : aZ P k ⟨d, .alloc t, ty, ps, af, gd⟩ ρ σ = if bT (σ k) then (jT P t).map fun z => ([k], .obj k (.box z) :: aM d (.ptr k 0)) else none := rfl
theorem agD (t : Nat) (x : Operand) : aZ P k ⟨d, .box t x, ty, ps, af, gd⟩ ρ σ = if bT (σ k) then (iR (ρ x)).map fun cs => ([k], .obj k (.box cs) :: aM d (.ptr k 0)) else none := rfl
theorem aa1 (t : Nat) : aZ P k ⟨d, .makeMap t none, ty, ps, af, gd⟩ ρ σ = if bT (σ k) then some ([k], .obj k (.mp []) :: aM d (.mapr k)) else none := rfl
end
section
variable {P : Program} {ops : Array Oper} {l : List Oper} {k : Nat} {es : List Eff} {s : ASt}
end
end Abs
end Go.Proofs.YtkopaeklihhdlaaGreat
namespace Go.Proofs.YtkopaeklihhdlaaGreat
namespace Abs
open Go
abbrev Str := List UInt8
inductive Ty where
 | mk (kind : Int) (name : Str) (kids : List Ty)
def Ty.kind : Ty → Int | .mk k _ _ => k
def Ty.name : Ty → Str | .mk _ n _ => n
def Ty.kids : Ty → List Ty | .mk _ _ ks => ks
inductive Tm where
 | mk (op : Int) (name : Str) (n : Int) (ty : Ty) (kids : List Tm)
def Tm.op : Tm → Int | .mk k _ _ _ _ => k
def Tm.name : Tm → Str | .mk _ n _ _ _ => n
def Tm.n : Tm → Int | .mk _ _ n _ _ => n
def Tm.ty : Tm → Ty | .mk _ _ _ t _ => t
def Tm.kids : Tm → List Tm | .mk _ _ _ _ ks => ks
mutual
def aH : Ty → List AV
 | .mk k n ks => [.int .i64 k, .str n, .slice (Br ks) .shared]
def Br : List Ty → List (List AV)
 | [] => []
 | t :: ts => aH t :: Br ts
end
mutual
def sU : Tm → List AV
 | .mk k n m t ks => [.int .i64 k, .str n, .int .i64 m] ++ aH t ++ [.slice (Bp ks) .shared]
def Bp : List Tm → List (List AV)
 | [] => []
 | t :: ts => sU t :: Bp ts
end
theorem EO : ∀ ts, Br ts = ts.map aH
 | [] => rfl
 | t :: ts => by simp [Br, EO ts]
theorem EU : ∀ ts, Bp ts = ts.map sU
 | [] => rfl
 | t :: ts => by simp [Bp, EU ts]
@[go_sem] theorem fC (t : Ty) : aH t = [.int .i64 t.kind, .str t.name, .slice (t.kids.map aH) .shared] := by
 cases t; simp [aH, EO, Ty.kind, Ty.name, Ty.kids]
@[go_sem] theorem acW (t : Tm) : sU t = [.int .i64 t.op, .str t.name, .int .i64 t.n, .int .i64 t.ty.kind, .str t.ty.name, .slice (t.ty.kids.map aH) .shared, .slice (t.kids.map sU) .shared] := by
 cases t; simp [sU, EU, Tm.op, Tm.name, Tm.n, Tm.ty, Tm.kids, fC]
mutual
theorem Qw (g : Nat → Nat) : ∀ t, bD g (aH t) = aH t
 | .mk k n ks => by simp only [aH, bD, ren, dx, AQ g ks]
theorem AQ (g : Nat → Nat) : ∀ ts, bq g (Br ts) = Br ts
 | [] => rfl
 | t :: ts => by simp only [Br, bq, Qw g t, AQ g ts]
end
mutual
theorem Qq (g : Nat → Nat) : ∀ t, bD g (sU t) = sU t
 | .mk k n m (.mk a b c) ks => by
  simp only [sU, aH, List.cons_append, List.nil_append, bD, ren, dx, Fq g ks, AQ g c]
theorem Fq (g : Nat → Nat) : ∀ ts, bq g (Bp ts) = Bp ts
 | [] => rfl
 | t :: ts => by simp only [Bp, bq, Qq g t, Fq g ts]
end
theorem afJ (g : Nat → Nat) (ts : List Ty) : bq g (ts.map aH) = ts.map aH := by rw [← EO]; exact AQ g ts
theorem afS (g : Nat → Nat) (ts : List Tm) : bq g (ts.map sU) = ts.map sU := by rw [← EU]; exact Fq g ts
end Abs
end Go.Proofs.YtkopaeklihhdlaaGreat
namespace Go.Proofs.YtkopaeklihhdlaaGreat
namespace Abs
open Go
inductive IxT where
 | sl (sz : Option Nat)
 | arr (len : Nat) (sz : Option Nat)
 | no
structure TI where
 size : Option Nat
 agg : Option Bool
 isPtr : Bool
 isBool : Bool
 isStr : Bool
 isStruct : Bool
 isSl : Bool
 int : Option IntKind
 ix : IxT
 field : List (Option (Nat × TypeId))
 place : List (Option (Nat × Nat))
 zero : Option (List AV)
 zav : Option AV
 slT : Option Nat
 elem : Option (TypeId × Nat × Nat)
 smap : Option TypeId
def intTy (P : Program) (t : TypeId) : Option IntKind := match P.underlying t with | some (.int k) => some k | _ => none
def Lf (P : Program) (t : TypeId) : IxT := match P.underlying t with | some (.slice e) => .sl (sizeT P e) | some (.array n e) => .arr n (sizeT P e) | _ => .no
def Pj (P : Program) (t : TypeId) : List (Option (Nat × TypeId)) := match P.underlying t with | some (.struct fs) => fs.toList.map fun x => (match sizeT P x.type with | some (_ + 1) => some (x.offset, x.type) | _ => none) | _ => []
def PL (P : Program) (t : TypeId) : List (Option (Nat × Nat)) := match P.underlying t with | some (.struct fs) => fs.toList.map fun f => (sizeT P f.type).map fun n => (f.offset, n) | _ => []
def TI.of (P : Program) (t : TypeId) : TI :=
 { size := sizeT P t, agg := IB P t, isPtr := VN P t, isBool := PO P t, isStr := aV.isStrT P t, isStruct := wO P t, isSl := aZ.isSliceT P t, int := intTy P t, ix := Lf P t, field := Pj P t, place := PL P t, zero := jT P t, zav := BI P t, slT := aV.sliceT P t, elem := jV P t, smap := qF P t }
def lk {α : Type} : List (Option α) → Nat → Option α
 | [], _ => none
 | x :: _, 0 => x
 | _ :: l, n + 1 => lk l n
theorem aec {α : Type} : ∀ (l : List (Option α)) (n : Nat), lk l n = (l[n]?).bind id := by
 intro l
 induction l with
 | nil => intro n; simp [lk]
 | cons a l ih => intro n; cases n with
  | zero => simp [lk]
  | succ n => simp [lk, ih]
theorem Rh (P : Program) (s f : Nat) : lk (TI.of P s).field f = uH P s f := by
 rw [aec]
 show (Pj P s)[f]?.bind id = _
 unfold Pj uH
 split
 ·rename_i fs h
  simp only [List.getElem?_map, Array.getElem?_toList, h]
  cases fs[f]? <;> rfl
 ·rename_i hn
  cases hu : P.underlying s with
  | none => rfl
  | some d => cases d <;> first | rfl | exact (hn _ hu).elim
theorem acL (P : Program) (s f : Nat) : lk (TI.of P s).place f = vL P s f := by
 rw [aec]
 show (PL P s)[f]?.bind id = _
 unfold PL vL
 split
 ·rename_i fs h
  simp only [List.getElem?_map, Array.getElem?_toList, h]
  cases fs[f]? <;> rfl
 ·rename_i hn
  cases hu : P.underlying s with
  | none => rfl
  | some d => cases d <;> first | rfl | exact (hn _ hu).elim
def agt (n : Nat) (cs : List AV) : Option AV := if cs.length = n then some (.agg cs) else if n ≤ cs.length then some (.agg (cs.take n)) else none
def loadT (τ : Nat → TI) (t : TypeId) (cs : List AV) : Option AV :=
 match (τ t).agg with
 | some true => match (τ t).size with
  | some n => agt n cs
  | none => none
 | some false => match cs with | [] => none | c :: _ => some c
 | none => none
theorem Lj (P : Program) (t : TypeId) (cs : List AV) : loadT (TI.of P) t cs = iV P t cs := rfl
def Ig (τ : Nat → TI) (op : BinOp) (t : TypeId) : AV → AV → Option AV
 | .int k a, .int k' b => if k = k' then (match op with
  | .add => some (.int k (k.wrap (a + b)))
  | .sub => some (.int k (k.wrap (a - b)))
  | .mul => some (.int k (k.wrap (a * b)))
  | .quo => if b = 0 then none else some (.int k (k.wrap (a.tdiv b)))
  | .rem => if b = 0 then none else some (.int k (a.tmod b))
  | .eql => some (.bool (a == b))
  | .neq => some (.bool (a != b))
  | .lss => some (.bool (decide (a < b)))
  | .leq => some (.bool (decide (a ≤ b)))
  | .gtr => some (.bool (decide (b < a)))
  | .geq => some (.bool (decide (b ≤ a)))
  | .shl => if 0 ≤ b ∧ b ≤ k.bits then some (.int k (k.wrap (a * 2 ^ b.toNat))) else none
  | .shr => if 0 ≤ b ∧ b ≤ k.bits then some (.int k (a.fdiv (2 ^ b.toNat))) else none
  | _ => none) else none
 | .str a, .str b => match op with
  | .add => if a.length + b.length ≤ 9223372036854775807 then some (.str (a ++ b)) else none
  | .eql => some (.bool (a == b))
  | .neq => some (.bool (!(a == b)))
  | .lss => some (.bool (Op.bytesLess a b))
  | .leq => some (.bool (Op.bytesLess a b || a == b))
  | .gtr => some (.bool (!(Op.bytesLess a b || a == b)))
  | .geq => some (.bool (!(Op.bytesLess a b)))
  | _ => none
 | .bool a, .bool b => if (τ t).isBool then (match op with
  | .eql => some (.bool (a == b))
  | .neq => some (.bool (!(a == b)))
  | _ => none) else none
 | x, .nilp => if (τ t).isPtr then (match op, Eh x with
  | .eql, some b => some (.bool b)
  | .neq, some b => some (.bool (!b))
  | _, _ => none) else none
 | _, _ => none
end Abs
end Go.Proofs.YtkopaeklihhdlaaGreat
namespace Go.Proofs.YtkopaeklihhdlaaGreat
namespace Abs
open Go
def eY : Bool → Prop → Prop → Prop
 | true, A, _ => A
 | false, _, B => B
def eG {α : Type} : Option α → (α → Prop) → Prop
 | some x, K => K x
 | none, _ => False
theorem bC {b : Bool} {A B : Prop} (h : eY b A B) : (b = true ∧ A) ∨ (b = false ∧ B) := by cases b <;> simp_all [eY]
theorem bK {α : Type} {r : Option α} {K : α → Prop} (h : eG r K) : ∃ x, r = some x ∧ K x := by cases r with | none => exact h.elim | some x => exact ⟨x, rfl, h⟩
def ajJ (es : List (List AV)) (n : Int) (sz : Nat) (K : AV → Prop) : Prop := ∃ cs, es[n.toNat]? = some cs ∧ 0 ≤ n ∧ cs.length = sz ∧ K (.eptr cs)
def afe (s : List UInt8) (n : Int) (K : AV → Prop) : Prop := (0 ≤ n ∧ n < s.length) ∧ K (.int .u8 (s.getD n.toNat 0).toNat)
def ajU (a b : List UInt8) (K : AV → Prop) : Prop := a.length + b.length ≤ 9223372036854775807 ∧ K (.str (a ++ b))
def aj2 (s : List UInt8) (lo hi : Option AV) (K : AV → Prop) : Prop := ∃ l h, dI hi s.length s.length = some h ∧ dI lo 0 h = some l ∧ K (.str ((s.drop l).take (h - l)))
def ajB (es : List (List AV)) (sz : Nat) (lo hi : Option AV) (K : AV → Prop) : Prop := ∃ l h, dI hi es.length es.length = some h ∧ dI lo 0 h = some l ∧ (l < es.length → (es.getD l []).length = sz) ∧ K (.slice ((es.drop l).take (h - l)) .shared)
def agX (n : Int) (len : Nat) (K : Prop) : Prop := (0 ≤ n ∧ n < len) ∧ K
def adv (ys : List (List AV)) (sz bytes : Nat) (K : Prop) : Prop := (ys.length * bytes ≤ 140737488355328 ∧ ys.length ≤ 140737488355328 ∧ (ys.all (bR sz) = true)) ∧ K
def adU (n : Nat) (es ys : List (List AV)) (sz bytes : Nat) (K : Prop) : Prop := (n = es.length * sz ∧ (es.length + ys.length) * bytes ≤ 140737488355328 ∧ es.length + ys.length ≤ 140737488355328 ∧ (es.all (bR sz) = true) ∧ (ys.all (bR sz) = true)) ∧ K
def ajp (es : List (List UInt8 × AV)) (K : Prop) : Prop := es.length < 140737488355328 ∧ K
def ah4 (es : List (List UInt8 × AV)) (s : List UInt8) (A : AV → Prop) (B : Prop) : Prop := (∀ v, nH es s = some v → A v) ∧ (nH es s = none → B)
def Vq (K : AV → Prop) : IxT → AV → AV → Prop
 | .sl (some sz), .slice es _, .int _ n => ajJ es n sz K
 | .arr len (some sz), .ptr l o, .int _ n => agX n len (K (.ptr l (o + n.toNat * sz)))
 | .arr len (some sz), .eptr cs, .int _ n => agX n len (K (.eptr (cs.drop (n.toNat * sz))))
 | _, _, _ => False
def cutV (isStr : Bool) (slT : Option Nat) (lo hi : Option AV) (K : AV → Prop) : AV → Prop
 | .str s => eY isStr (aj2 s lo hi K) False
 | .slice es _ => eG slT fun sz => ajB es sz lo hi K
 | _ => False
def C9 (τ : Nat → TI) (op : BinOp) (t : TypeId) (x y : AV) (K : AV → Prop) : Prop :=
 match op, x, y with
 | .add, .str a, .str b => ajU a b K
 | op, x, y => eG (Ig τ op t x y) K
def aaE (σ : Nat → AObj) (k sz bytes : Nat) (d : Option Tmp) (K : List Nat → List Wr → Prop) : AV → AV → Prop
 | .slice [] .nils, .slice ys _ => eY (bT (σ k)) (adv ys sz bytes (K [k] (.obj k (.tip (ys.length * sz)) :: aM d (.slice ys (.tip k sz))))) False
 | .slice es (.tip l z), .slice ys _ => match σ l with
  | .tip n => eY (bT (σ k) && z == sz) (adU n es ys sz bytes (K [l, k] (.obj l .dead :: .obj k (.tip ((es ++ ys).length * sz)) :: aM d (.slice (es ++ ys) (.tip k sz))))) False
  | _ => False
 | _, _ => False
def stepT (τ : Nat → TI) (k : Nat) (d : Option Tmp) (ρ : Operand → AV) (σ : Nat → AObj) (K : List Nat → List Wr → Prop) : Op → Prop
 | .move x => K [] (aM d (ρ x))
 | .assign x => K [] (aM d (ρ x))
 | .pick c x y => match ρ c with
  | .bool b => eY b (K [] (aM d (ρ x))) (K [] (aM d (ρ y)))
  | _ => False
 | .nilCheck x => eG (adu (ρ x)) fun v => K [] (aM d v)
 | .binOp op t x y _ => C9 τ op t (ρ x) (ρ y) fun v => K [] (aM d v)
 | .unOp op _ x => eG (unK op (ρ x)) fun v => K [] (aM d v)
 | .fieldAddr s x f => eG (M7 (lk (τ s).field f) (ρ x)) fun v => K [] (aM d v)
 | .field s x f => eG (lk (τ s).field f) fun p => match ρ x with
  | .agg cs => eG (loadT τ p.2 (cs.drop p.1)) fun v => K [] (aM d v)
  | _ => False
 | .indexAddr t x i => Vq (fun v => K [] (aM d v)) (τ t).ix (ρ x) (ρ i)
 | .index t x i => match ρ x, ρ i with
  | .str s, .int _ n => eY (τ t).isStr (afe s n fun v => K [] (aM d v)) False
  | _, _ => False
 | .extract x i => match ρ x with
  | .tup vs => eG (vs[i]?) fun v => K [] (aM d v)
  | _ => False
 | .slice t x lo hi none => cutV (τ t).isStr (τ t).slT (lo.map ρ) (hi.map ρ) (fun v => K [] (aM d v)) (ρ x)
 | .build t parts => eY (τ t).isStruct (eG (τ t).zero fun z => eG (iZ (lk (τ t).place) z (parts.toList.map fun p => (p.1, ρ p.2))) fun cs => K [] (aM d (.agg cs))) False
 | .makeFunc (.func f) first captured => eY (first.toList.isEmpty) (K [] (aM d (.func f (captured.toList.map ρ)))) False
 | .load t x => match ρ x with
  | .eptr cs => eG (loadT τ t cs) fun v => K [] (aM d v)
  | .ptr l off => match σ l with
   | .box cs => eG (loadT τ t (cs.drop off)) fun v => K [l] (aM d v)
   | _ => False
  | _ => False
 | .store t x y => match ρ x with
  | .ptr l off => eG (iR (ρ y)) fun vs => match σ l with
   | .box cs => eY (decide ((τ t).size = some vs.length ∧ off + vs.length ≤ cs.length) && vs.all isScalar) (K [l] (.obj l (.box (cs.take off ++ vs ++ cs.drop (off + vs.length))) :: aM d (.tup []))) False
   | _ => False
  | _ => False
 | .alloc t => eY (bT (σ k)) (eG (τ t).zero fun z => K [k] (.obj k (.box z) :: aM d (.ptr k 0))) False
 | .box _ x => eY (bT (σ k)) (eG (iR (ρ x)) fun cs => K [k] (.obj k (.box cs) :: aM d (.ptr k 0))) False
 | .makeMap _ none => eY (bT (σ k)) (K [k] (.obj k (.mp []) :: aM d (.mapr k))) False
 | .buildSlice t len parts => eG (τ t).elem fun e => eG (τ e.1).zero fun z => eY (bT (σ k) && (decide (len * e.2.1 ≤ 16777216) && (decide (len ≤ 16777216) && decide (z.length = e.2.1)))) (eG (iZ (fun i => some (i * e.2.1, e.2.1)) ((List.replicate len z).flatten) (parts.toList.map fun p => (p.1, ρ p.2))) fun cs => K [k] (.obj k (.tip (len * e.2.1)) :: aM d (.slice (chunks e.2.1 len (cs.map shr)) (.tip k e.2.1)))) False
 | .convert s t x => match ρ x with
  | .int _ n => eY (τ s).int.isSome (eG (τ t).int fun k => K [] (aM d (.int k (k.wrap n)))) False
  | _ => False
 | .call { callee := .builtin .len, args, argTypes } => match args.toList, argTypes.toList with
  | [x], [t] => eG (ad6 (τ t).isStr (τ t).slT (ρ x)) fun v => K [] (aM d v)
  | _, _ => False
 | .call { callee := .builtin .append, args, argTypes } => match args.toList, argTypes.toList with
  | [x, y], [t, t2] => eG (τ t).elem fun e => eY (τ t2).isSl (aaE σ k e.2.1 e.2.2 d K (ρ x) (ρ y)) False
  | _, _ => False
 | .call { callee := .builtin .max, args, argTypes := _ } => match args.toList with
  | [x, y] => match ρ x, ρ y with
   | .int k a, .int k' b => eY (decide (k = k')) (K [] (aM d (.int k (if b > a then b else a)))) False
   | _, _ => False
  | _ => False
 | .call { callee := .builtin .min, args, argTypes := _ } => match args.toList with
  | [x, y] => match ρ x, ρ y with
   | .int k a, .int k' b => eY (decide (k = k')) (K [] (aM d (.int k (if b < a then b else a)))) False
   | _, _ => False
  | _ => False
 | .lookup t m key ok => eG (τ t).smap fun e => match ρ m, ρ key with
  | .mapr l, .str s => match σ l with
   | .mp es => eG (τ e).zav fun z => ah4 es s (fun v => K [l] (aM d (DU (some v) ok z))) (K [l] (aM d (DU none ok z)))
   | _ => False
  | _, _ => False
 | .mapUpdate t m key x => eG (τ t).smap fun _ => match ρ m, ρ key with
  | .mapr l, .str s => match σ l with
   | .mp es => ajp es (K [l] (.obj l (.mp (xO es s (qj (ρ x)))) :: aM d (.tup [])))
   | _ => False
  | _, _ => False
 | _ => False
end Abs
end Go.Proofs.YtkopaeklihhdlaaGreat
namespace Go.Proofs.YtkopaeklihhdlaaGreat
namespace Abs
open Go
theorem eF {P : Program} {k : Nat} {o : Oper} {ρ : Operand → AV} {σ : Nat → AObj} {v : AV} {K : List Nat → List Wr → Prop} (h : aV P o.op ρ = some v) (hK : K [] (aM o.dst v)) : ∃ rd ws, aZ P k o ρ σ = some (rd, ws) ∧ K rd ws :=
 ⟨[], aM o.dst v, by unfold aZ; rw [h], hK⟩
theorem aaK {P : Program} {op : BinOp} {t : TypeId} {x y : AV} {K : AV → Prop} (h : C9 (TI.of P) op t x y K) : ∃ v, EK P op t x y = some v ∧ K v := by
 unfold C9 at h
 split at h
 ·obtain ⟨h1, h2⟩ := h
  exact ⟨_, by simp [EK, h1], h2⟩
 ·obtain ⟨v, h1, h2⟩ := bK h
  exact ⟨v, h1, h2⟩
theorem ab9 {P : Program} {t : TypeId} {x i : Operand} {ρ : Operand → AV} {K : AV → Prop} (h : Vq K (TI.of P t).ix (ρ x) (ρ i)) : ∃ v, aV P (.indexAddr t x i) ρ = some v ∧ K v := by
 have hix : (TI.of P t).ix = Lf P t := rfl
 rw [hix] at h
 simp only [aV]
 unfold Lf at h
 unfold Vq at h
 split at h
 ·rename_i sz es tag k n h1 h2 h3
  split at h1
  ·rename_i e hu
   simp only [IxT.sl.injEq] at h1
   obtain ⟨cs, g1, g2, g3, g4⟩ := h
   have hlt := (List.getElem?_eq_some_iff.1 g1).1
   have hd : es.getD n.toNat [] = cs := by simp [List.getD, g1]
   refine ⟨.eptr cs, ?_, g4⟩
   simp_all
  ·cases h1
  ·cases h1
 ·rename_i len sz l o k n h1 h2 h3
  split at h1
  ·cases h1
  ·rename_i n' e hu
   simp only [IxT.arr.injEq] at h1
   obtain ⟨g1, g2⟩ := h
   exact ⟨_, by simp_all, g2⟩
  ·cases h1
 ·rename_i len sz cs k n h1 h2 h3
  split at h1
  ·cases h1
  ·rename_i n' e hu
   simp only [IxT.arr.injEq] at h1
   obtain ⟨g1, g2⟩ := h
   exact ⟨_, by simp_all, g2⟩
  ·cases h1
 ·exact h.elim
theorem abY {P : Program} {t : TypeId} {x : Operand} {lo hi : Option Operand} {ρ : Operand → AV} {K : AV → Prop} (h : cutV (TI.of P t).isStr (TI.of P t).slT (lo.map ρ) (hi.map ρ) K (ρ x)) : ∃ v, aV P (.slice t x lo hi none) ρ = some v ∧ K v := by
 have h1 : (TI.of P t).isStr = aV.isStrT P t := rfl
 have h2 : (TI.of P t).slT = aV.sliceT P t := rfl
 rw [h1, h2] at h
 simp only [aV]
 unfold cutV at h
 split at h
 ·rename_i s hx
  rcases bC h with ⟨g1, l, hh, g2, g3, g4⟩ | ⟨_, g⟩
  ·exact ⟨_, by simp [hx, g1, g2, g3], g4⟩
  ·exact g.elim
 ·rename_i es tag hx
  obtain ⟨sz, g1, l, hh, g2, g3, g4, g5⟩ := bK h
  exact ⟨_, by simp only [hx, g1, g2, g3]; rw [if_pos g4], g5⟩
 ·exact h.elim
theorem KI {P : Program} {k : Nat} {o : Oper} {ρ : Operand → AV} {σ : Nat → AObj} {K : List Nat → List Wr → Prop} (h : stepT (TI.of P) k o.dst ρ σ K o.op) : ∃ rd ws, aZ P k o ρ σ = some (rd, ws) ∧ K rd ws := by
 obtain ⟨d, op, ty, ps, af, gd⟩ := o
 simp only at h
 unfold stepT at h
 split at h
 ·exact eF (o := ⟨d, _, ty, ps, af, gd⟩) rfl h
 ·exact eF (o := ⟨d, _, ty, ps, af, gd⟩) rfl h
 ·rename_i c x y
  split at h
  ·rename_i b hb
   rcases bC h with ⟨rfl, g⟩ | ⟨rfl, g⟩
   ·exact eF (o := ⟨d, _, ty, ps, af, gd⟩) (by simp [aV, hb]) g
   ·exact eF (o := ⟨d, _, ty, ps, af, gd⟩) (by simp [aV, hb]) g
  ·exact h.elim
 ·obtain ⟨v, g1, g2⟩ := bK h
  exact eF (o := ⟨d, _, ty, ps, af, gd⟩) g1 g2
 ·obtain ⟨v, g1, g2⟩ := aaK h
  exact eF (o := ⟨d, _, ty, ps, af, gd⟩) g1 g2
 ·obtain ⟨v, g1, g2⟩ := bK h
  exact eF (o := ⟨d, _, ty, ps, af, gd⟩) g1 g2
 ·rw [Rh] at h
  obtain ⟨v, g1, g2⟩ := bK h
  exact eF (o := ⟨d, _, ty, ps, af, gd⟩) g1 g2
 ·rw [Rh] at h
  obtain ⟨p, g1, g2⟩ := bK h
  split at g2
  ·rename_i cs hx
   obtain ⟨v, g3, g4⟩ := bK g2
   exact eF (o := ⟨d, _, ty, ps, af, gd⟩) (by simp only [aV, g1, hx]; exact g3) g4
  ·exact g2.elim
 ·obtain ⟨v, g1, g2⟩ := ab9 h
  exact eF (o := ⟨d, _, ty, ps, af, gd⟩) g1 g2
 ·split at h
  ·rename_i s kk n hx hi
   rcases bC h with ⟨g1, g2, g3⟩ | ⟨_, g⟩
   ·have g1 : aV.isStrT P _ = true := g1
    exact eF (o := ⟨d, _, ty, ps, af, gd⟩) (by simp only [aV, hx, hi]; rw [if_pos ⟨g1, g2⟩]) g3
   ·exact g.elim
  ·exact h.elim
 ·split at h
  ·rename_i vs hx
   obtain ⟨v, g1, g2⟩ := bK h
   have hlt := (List.getElem?_eq_some_iff.1 g1).1
   exact eF (o := ⟨d, _, ty, ps, af, gd⟩) (v := v) (by simp only [aV, hx]; rw [if_pos hlt]; simp [List.getD, g1]) g2
  ·exact h.elim
 ·obtain ⟨v, g1, g2⟩ := abY h
  exact eF (o := ⟨d, _, ty, ps, af, gd⟩) g1 g2
 ·rename_i t parts
  rcases bC h with ⟨g1, g2⟩ | ⟨_, g⟩
  ·obtain ⟨z, g3, g4⟩ := bK g2
   obtain ⟨cs, g5, g6⟩ := bK g4
   have g1 : wO P t = true := g1
   have g3 : jT P t = some z := g3
   have : lk (TI.of P t).place = vL P t := funext fun i => acL P t i
   rw [this] at g5
   exact eF (o := ⟨d, _, ty, ps, af, gd⟩) (by simp only [aV, g1, if_true, g3, g5, Option.map_some]) g6
  ·exact g.elim
 ·rename_i f first captured
  rcases bC h with ⟨g1, g2⟩ | ⟨_, g⟩
  ·have : first.size = 0 := by
    have := List.isEmpty_iff.1 g1
    simpa using this
   exact eF (o := ⟨d, _, ty, ps, af, gd⟩) (by simp only [aV]; rw [if_pos this]) g2
  ·exact g.elim
 ·rename_i t x
  split at h
  ·rename_i cs hx
   obtain ⟨v, g1, g2⟩ := bK h
   exact eF (o := ⟨d, _, ty, ps, af, gd⟩) (by simp only [aV, hx]; exact g1) g2
  ·rename_i l off hx
   split at h
   ·rename_i cs hl
    obtain ⟨v, g1, g2⟩ := bK h
    rw [Lj] at g1
    exact ⟨_, _, by rw [Zc]; simp only [Ur, hx, hl, g1]; rfl, g2⟩
   ·exact h.elim
  ·exact h.elim
 ·rename_i t x y
  split at h
  ·rename_i l off hx
   obtain ⟨vs, g1, g2⟩ := bK h
   split at g2
   ·rename_i cs hl
    rcases bC g2 with ⟨g3, g4⟩ | ⟨_, g⟩
    ·simp only [Bool.and_eq_true, decide_eq_true_eq] at g3
     have g3' : sizeT P t = some vs.length := g3.1.1
     refine ⟨_, _, ?_, g4⟩
     rw [LV]
     simp only [OH, hx, g1, hl]
     rw [if_pos ⟨g3', g3.1.2, g3.2⟩]
    ·exact g.elim
   ·exact g2.elim
  ·exact h.elim
 ·rcases bC h with ⟨g1, g2⟩ | ⟨_, g⟩
  ·obtain ⟨z, g3, g4⟩ := bK g2
   have g3 : jT P _ = some z := g3
   exact ⟨_, _, by rw [adh, g1, if_pos rfl, g3]; rfl, g4⟩
  ·exact g.elim
 ·rcases bC h with ⟨g1, g2⟩ | ⟨_, g⟩
  ·obtain ⟨z, g3, g4⟩ := bK g2
   exact ⟨_, _, by rw [agD, g1, if_pos rfl, g3]; rfl, g4⟩
  ·exact g.elim
 ·rcases bC h with ⟨g1, g2⟩ | ⟨_, g⟩
  ·exact ⟨_, _, by rw [aa1, g1, if_pos rfl], g2⟩
  ·exact g.elim
 ·rename_i t len parts
  obtain ⟨⟨e, sz, by'⟩, g1, g2⟩ := bK h
  obtain ⟨z, g3, g4⟩ := bK g2
  rcases bC g4 with ⟨g5, g6⟩ | ⟨_, g⟩
  ·obtain ⟨cs, g7, g8⟩ := bK g6
   have g1 : jV P t = some (e, sz, by') := g1
   have g3 : jT P e = some z := g3
   simp only [Bool.and_eq_true, decide_eq_true_eq] at g5
   refine ⟨_, _, ?_, g8⟩
   simp only [aZ, aV, g1, g3]
   rw [if_pos ⟨g5.1, g5.2.1, g5.2.2.1, g5.2.2.2⟩]
   simp only at g7
   rw [g7]; rfl
  ·exact g.elim
 ·rename_i s t x
  split at h
  ·rename_i kk n hx
   rcases bC h with ⟨g1, g2⟩ | ⟨_, g⟩
   ·obtain ⟨kt, g3, g4⟩ := bK g2
    have g1 : (intTy P s).isSome = true := g1
    have g3 : intTy P t = some kt := g3
    refine eF (o := ⟨d, _, ty, ps, af, gd⟩) (v := .int kt (kt.wrap n)) ?_ g4
    have hc : aV.convT P s t = some kt := by
     unfold intTy at g1 g3
     unfold aV.convT
     split at g1
     ·rename_i hs
      split at g3
      ·rename_i ht; cases g3; simp [hs, ht]
      ·cases g3
     ·cases g1
    simp only [aV, hx, hc]
   ·exact g.elim
  ·exact h.elim
 ·rename_i args argTypes
  split at h
  ·rename_i x t ha ht
   obtain ⟨v, g1, g2⟩ := bK h
   exact eF (o := ⟨d, _, ty, ps, af, gd⟩) (by simp only [aV, ha, ht]; exact g1) g2
  ·exact h.elim
 ·rename_i args argTypes
  split at h
  ·rename_i x y t t2 ha ht
   obtain ⟨⟨e, sz, by'⟩, g1, g2⟩ := bK h
   rcases bC g2 with ⟨g3, g4⟩ | ⟨_, g⟩
   ·have g1 : jV P t = some (e, sz, by') := g1
    have g3 : aZ.isSliceT P t2 = true := g3
    simp only at g4
    unfold aaE at g4
    split at g4
    ·rename_i ys tg hx hy
     rcases bC g4 with ⟨g5, g6, g7⟩ | ⟨_, g⟩
     ·refine ⟨_, _, ?_, g7⟩
      simp only [aZ, aV, ha, ht, g1, g3, hx, hy]
      rw [if_pos ⟨g5, trivial, g6⟩]
     ·exact g.elim
    ·rename_i es l z ys tg hx hy
     split at g4
     ·rename_i n hl
      rcases bC g4 with ⟨g5, g6, g7⟩ | ⟨_, g⟩
      ·simp only [Bool.and_eq_true, beq_iff_eq] at g5
       refine ⟨_, _, ?_, g7⟩
       simp only [aZ, aV, ha, ht, g1, g3, hx, hy, hl]
       rw [if_pos ⟨g5.1, g6.1, g5.2, g6.2⟩]
      ·exact g.elim
     ·exact g4.elim
    ·exact g4.elim
   ·exact g.elim
  ·exact h.elim
 ·rename_i args argTypes
  split at h
  ·rename_i x y ha
   split at h
   ·rename_i k1 a k2 b hx hy
    rcases bC h with ⟨g1, g2⟩ | ⟨_, g⟩
    ·simp only [decide_eq_true_eq] at g1
     exact eF (o := ⟨d, _, ty, ps, af, gd⟩) (by simp only [aV, ha, hx, hy]; rw [if_pos g1]) g2
    ·exact g.elim
   ·exact h.elim
  ·exact h.elim
 ·rename_i args argTypes
  split at h
  ·rename_i x y ha
   split at h
   ·rename_i k1 a k2 b hx hy
    rcases bC h with ⟨g1, g2⟩ | ⟨_, g⟩
    ·simp only [decide_eq_true_eq] at g1
     exact eF (o := ⟨d, _, ty, ps, af, gd⟩) (by simp only [aV, ha, hx, hy]; rw [if_pos g1]) g2
    ·exact g.elim
   ·exact h.elim
  ·exact h.elim
 ·rename_i t m key ok
  obtain ⟨e, g1, g2⟩ := bK h
  split at g2
  ·rename_i l s hm hk
   split at g2
   ·rename_i es hl
    obtain ⟨z, g3, g4, g5⟩ := bK g2
    have g1 : qF P t = some e := g1
    have g3 : BI P e = some z := g3
    cases hf : nH es s with
    | some v => exact ⟨_, _, by simp only [aZ, aV, g1, hm, hk, hl, g3, hf], g4 v hf⟩
    | none => exact ⟨_, _, by simp only [aZ, aV, g1, hm, hk, hl, g3, hf], g5 hf⟩
   ·exact g2.elim
  ·exact g2.elim
 ·rename_i t m key x
  obtain ⟨e, g1, g2⟩ := bK h
  split at g2
  ·rename_i l s hm hk
   split at g2
   ·rename_i es hl
    obtain ⟨g3, g4⟩ := g2
    have g1 : qF P t = some e := g1
    exact ⟨_, _, by simp only [aZ, aV, g1, hm, hk, hl]; rw [if_pos g3], g4⟩
   ·exact g2.elim
  ·exact g2.elim
 ·exact h.elim
end Abs
end Go.Proofs.YtkopaeklihhdlaaGreat

/-
  Regions that draw their order: the theorem ('AWP.drawn'). Conditions: none; lemmas over any program.
-/
import Derived.Test.YtiiaccpcoclklaaGreatCAbs17x82cb1c
set_option linter.unusedSimpArgs false
set_option linter.unusedVariables false
namespace Go.Proofs.YtiiaccpcoclklaaGreat
namespace Abs
open Go
structure Agree (t s : ASt) (e : Eff) : Prop where
 tl : t.tmps.length = s.tmps.length
 hl : t.heap.length = s.heap.length
 rs : ∀ n ∈ e.rs, t.tmps.getD n .unk = s.tmps.getD n .unk
 ro : ∀ l ∈ e.ro, obj? t.heap l = obj? s.heap l
def H8 (P : Program) (ops : Array Oper) (o : Oper) (s : ASt) (e : Eff) : Prop := ∀ t, Agree t s e → anW P ops o t (t.wr e.ws)
inductive ATr (P : Program) (ops : Array Oper) : List Oper → List Eff → ASt → ASt → Prop where
 | nil (s : ASt) : ATr P ops [] [] s s
 | cons {o : Oper} {l : List Oper} {e : Eff} {es : List Eff} {s s' : ASt} : H8 P ops o s e → ATr P ops l es (s.wr e.ws) s' → ATr P ops (o :: l) (e :: es) s s'
theorem ATr.steps {P : Program} {ops : Array Oper} {l : List Oper} {es : List Eff} {s s' : ASt} (h : ATr P ops l es s s') : ASteps P ops l s s' := by
 induction h with
 | nil s => exact .nil s
 | cons he _ ih => exact .cons (he _ ⟨rfl, rfl, fun _ _ => rfl, fun _ _ => rfl⟩) ih
def Aw (o : Oper) : List Nat := (o.after.toList.filter (Region.binds .any)).map (·.on)
def Vd : List Oper → List (List Nat) → List (List Nat)
 | [], acc => acc
 | o :: l, acc => Vd l (acc ++ [Aw o ++ (Aw o).flatMap fun p => acc.getD p []])
def oN (e f : Eff) : Bool :=
 (qJ e.ws).any (fun n => f.rs.contains n || (qJ f.ws).contains n) || (qJ f.ws).any (fun n => e.rs.contains n) ||
 (vC e.ws).any (fun n => f.ro.contains n || (vC f.ws).contains n) || (vC f.ws).any (fun n => e.ro.contains n)
def MP : Eff := ⟨[], [], []⟩
def yQ (l : List Oper) (es : List Eff) : Bool :=
 (List.range l.length).all fun j => (Aw (l.getD j default)).all (fun p => decide (p < j)) && (List.range j).all fun i => !(oN (es.getD i MP) (es.getD j MP)) || ((Vd l []).getD j []).contains i
theorem ada {D : Nat → Prop} : ∀ (l : List Oper) (acc : List (List Nat)), (∀ j i, D j → i ∈ acc.getD j [] → D i) → (∀ j o, l[j]? = some o → D (acc.length + j) → ∀ p ∈ Aw o, D p) → ∀ j i, D j → i ∈ (Vd l acc).getD j [] → D i := by
 intro l
 induction l with
 | nil => intro acc h _ j i hj hi; exact h j i hj hi
 | cons o l ih =>
  intro acc h hc j i hj hi
  simp only [Vd] at hi
  refine ih _ ?_ ?_ j i hj hi
  ·intro j i hj hi
   by_cases hlt : j < acc.length
   ·rw [List.getD, List.getElem?_append_left hlt] at hi; exact h j i hj hi
   ·by_cases he : j = acc.length
    ·subst he
     rw [List.getD, List.getElem?_append_right (Nat.le_refl _)] at hi
     simp only [Nat.sub_self, List.getElem?_cons_zero, Option.getD_some, List.mem_append, List.mem_flatMap] at hi
     have hp := hc 0 o (by simp) hj
     rcases hi with hi | ⟨p, hp1, hp2⟩
     ·exact hp i hi
     ·exact h p i (hp p hp1) hp2
    ·rw [List.getD, List.getElem?_eq_none (by simp; omega)] at hi; simp at hi
  ·intro j o' hj' hD p hp
   refine hc (j + 1) o' (by simpa using hj') ?_ p hp
   rw [List.length_append, List.length_singleton] at hD
   rwa [show acc.length + (j + 1) = acc.length + 1 + j from by omega]
theorem ATr.spec {P : Program} {ops : Array Oper} {l : List Oper} {es : List Eff} {s s' : ASt} (h : ATr P ops l es s s') : l.length = es.length ∧ s' = s.wr (fQ (fun _ => true) 0 es) ∧
  ∀ i o e, l[i]? = some o → es[i]? = some e → H8 P ops o (s.wr (fQ (fun j => decide (j < i)) 0 es)) e := by
 have hz : ∀ (es : List Eff) (k : Nat), fQ (fun _ => false) k es = [] := fun es => by
  induction es with
  | nil => intro k; rfl
  | cons e es ih => intro k; simp [fQ, ih]
 have hcongr : ∀ (D D' : Nat → Bool) (es : List Eff) (k k' : Nat), (∀ i, D (k + i) = D' (k' + i)) → fQ D k es = fQ D' k' es := fun D D' es => by
  induction es with
  | nil => intro k k' _; rfl
  | cons e es ih =>
   intro k k' h
   simp only [fQ]
   have h0 := h 0; rw [Nat.add_zero, Nat.add_zero] at h0
   rw [h0, ih (k + 1) (k' + 1) (fun i => by have := h (i + 1); rwa [show k + (i + 1) = k + 1 + i from by omega, show k' + (i + 1) = k' + 1 + i from by omega] at this)]
 induction h with
 | nil s => exact ⟨rfl, rfl, fun i o e h => by simp at h⟩
 | @cons o l e es s s' he _ ih =>
  obtain ⟨h1, h2, h3⟩ := ih
  refine ⟨by simp [h1], ?_, fun i o' e' hi hi' => ?_⟩
  ·rw [h2]; simp only [fQ, if_true, Jm]
   rw [hcongr (fun _ => true) (fun _ => true) es 0 1 (fun _ => rfl)]
  ·cases i with
   | zero =>
    simp only [List.getElem?_cons_zero, Option.some.injEq] at hi hi'
    subst hi hi'
    have : fQ (fun j => decide (j < 0)) 0 (e :: es) = [] := by
     rw [hcongr (fun j => decide (j < 0)) (fun _ => false) (e :: es) 0 0 (fun i => by simp)]; exact hz _ _
    rw [this]; exact he
   | succ i =>
    have := h3 i o' e' (by simpa using hi) (by simpa using hi')
    have hf : fQ (fun j => decide (j < i + 1)) 0 (e :: es) = e.ws ++ fQ (fun j => decide (j < i)) 0 es := by
     simp only [fQ]
     rw [if_pos (by simp)]
     rw [hcongr (fun j => decide (j < i + 1)) (fun j => decide (j < i)) es 1 0 (fun j => by rw [Bool.eq_iff_iff]; simp; omega)]
    rw [hf, Jm]; exact this
theorem ah5 {e f : Eff} {n : Nat} (h : oN e f = false) (he : n ∈ qJ e.ws) : n ∉ f.rs ∧ n ∉ qJ f.ws := by
 simp only [oN, Bool.or_eq_false_iff, List.any_eq_false] at h
 have := h.1.1.1 n he
 simp only [Bool.or_eq_true, List.contains_iff_mem, not_or] at this
 exact this
theorem ah4 {e f : Eff} {n : Nat} (h : oN e f = false) (he : n ∈ vC e.ws) : n ∉ f.ro ∧ n ∉ vC f.ws := by
 simp only [oN, Bool.or_eq_false_iff, List.any_eq_false] at h
 have := h.1.2 n he
 simp only [Bool.or_eq_true, List.contains_iff_mem, not_or] at this
 exact this
theorem aii {listed : Array Bool} {i : Nat} (hi : i < listed.size) (hf : listed.getD i true = false) : ((listed.setIfInBounds i true).toList.filter (!·)).length + 1 = (listed.toList.filter (!·)).length := by
 have key : ∀ (l : List Bool) (i : Nat), i < l.length → l.getD i true = false → ((l.set i true).filter (!·)).length + 1 = (l.filter (!·)).length := by
  intro l
  induction l with
  | nil => intro i hi; simp at hi
  | cons x l ih =>
   intro i hi hg
   cases i with
   | zero => simp [List.getD] at hg; subst hg; simp
   | succ i =>
    have := ih i (by simpa using hi) (by simpa [List.getD] using hg)
    cases x <;> simp [this]
 have := key listed.toList i (by simpa using hi) (by simpa [Array.getD_eq_getD_getElem?, List.getD] using hf)
 simpa using this
theorem aiT {P : Program} {l : List Oper} {es : List Eff} {s s' : ASt} {C : Ctx} {Q : Exit → Act → World → Prop} (htr : ATr P l.toArray l es s s') (hok : yQ l es = true) (hq : ∀ κ' a' w', Sim C κ' s' a' w' → Q .normal a' w') :
  ∀ (fuel : Nat) (listed : Array Bool) (κ : dG) (a : Act) (w : World), listed.size = l.length → (listed.toList.filter (!·)).length = fuel →
   (∀ j o, l[j]? = some o → listed.getD j false = true → ∀ p ∈ Aw o, listed.getD p false = true) →
   Sim C κ (s.wr (fQ (fun i => listed.getD i false) 0 es)) a w → wpAny P .any l.toArray Q fuel listed a w := by
 obtain ⟨hlen, hs', heff⟩ := htr.spec
 have hord : ∀ j, j < l.length → (∀ p ∈ Aw (l.getD j default), p < j) ∧ ∀ i, i < j → oN (es.getD i MP) (es.getD j MP) = true → i ∈ (Vd l []).getD j [] := fun j hj => by
  have := List.all_eq_true.1 hok j (List.mem_range.2 hj)
  simp only [Bool.and_eq_true, List.all_eq_true, decide_eq_true_eq, List.mem_range, Bool.or_eq_true, Bool.not_eq_true', List.contains_iff_mem] at this
  refine ⟨this.1, fun i hi hc => ?_⟩
  rcases this.2 i hi with h | h
  ·rw [hc] at h; cases h
  ·exact h
 have hall : ∀ (listed : Array Bool), listed.size = l.length → Region.ready .any l.toArray listed = [] → ∀ i, i < l.length → listed.getD i false = true := by
  intro listed hsz hr i
  induction i using Nat.strongRecOn with
  | _ i ih =>
   intro hi
   cases hb : listed.getD i false with
   | true => rfl
   | false =>
    exfalso
    have hlt : i < listed.size := by omega
    have : i ∈ Region.ready .any l.toArray listed := by
     refine mem_ready.2 ⟨?_, l[i], by simp [hi], fun e he hbd => ?_⟩
     ·simpa [Array.getD, hlt] using hb
     ·have hp := (hord i hi).1 e.on (by
       simp only [Aw, List.getD, List.getElem?_eq_getElem hi, Option.getD_some]
       exact List.mem_map.2 ⟨e, List.mem_filter.2 ⟨by simpa using he, hbd⟩, rfl⟩)
      exact ih e.on hp (by omega)
    rw [hr] at this; cases this
 have hdone : ∀ (listed : Array Bool) (κ : dG) (a : Act) (w : World), listed.size = l.length → Region.ready .any l.toArray listed = [] → Sim C κ (s.wr (fQ (fun i => listed.getD i false) 0 es)) a w → Q .normal a w := by
  intro listed κ a w hsz hr hsim
  have ha := hall listed hsz hr
  refine hq κ a w ?_
  have : s.wr (fQ (fun i => listed.getD i false) 0 es) = s' := by
   rw [hs']
   refine ASt.ext' (by rw [(nO _ s).1, (nO _ s).1]) (by rw [(nO _ s).2, (nO _ s).2]) (fun n hn => ?_) (fun n hn => ?_)
   ·rw [(nO _ s).1] at hn
    rw [GJ _ n s hn, GJ _ n s hn]
    rw [Rq (D' := fun _ => true) es 0 (fun i e hi _ => by rw [Nat.zero_add]; exact ha i (by have := (List.getElem?_eq_some_iff.1 hi).1; omega))]
   ·rw [(nO _ s).2] at hn
    rw [Lf _ n s hn, Lf _ n s hn]
    rw [RG (D' := fun _ => true) es 0 (fun i e hi _ => by rw [Nat.zero_add]; exact ha i (by have := (List.getElem?_eq_some_iff.1 hi).1; omega))]
  rw [← this]; exact hsim
 intro fuel
 induction fuel with
 | zero =>
  intro listed κ a w hsz hcnt _ hsim
  have hr : Region.ready .any l.toArray listed = [] := by
   cases hrd : Region.ready .any l.toArray listed with
   | nil => rfl
   | cons i r =>
    exfalso
    have hm : i ∈ Region.ready .any l.toArray listed := by rw [hrd]; simp
    obtain ⟨h1, o, h2, _⟩ := mem_ready.1 hm
    have hlt : i < listed.size := by have := (Array.getElem?_eq_some_iff.1 h2).1; simp at this; omega
    have := aii hlt h1
    omega
  exact ⟨hr, hdone listed κ a w hsz hr hsim⟩
 | succ fuel ih =>
  intro listed κ a w hsz hcnt hdown hsim
  refine ⟨fun hr => hdone listed κ a w hsz hr hsim, fun i hi => ?_⟩
  obtain ⟨h1, o, h2, h3⟩ := mem_ready.1 hi
  have hil : i < l.length := by have := (Array.getElem?_eq_some_iff.1 h2).1; simpa using this
  have hlo : l[i]? = some o := by simpa using h2
  have hlt : i < listed.size := by omega
  have hi0 : listed.getD i false = false := by simpa [Array.getD, hlt] using h1
  obtain ⟨e, hei⟩ : ∃ e, es[i]? = some e := ⟨_, List.getElem?_eq_getElem (by omega)⟩
  have hgi : es.getD i MP = e := by rw [List.getD, hei]; rfl
  -- where something conflicts with i
  have hbd : ∀ j i', listed.getD j false = true → i' ∈ (Vd l []).getD j [] → listed.getD i' false = true :=
   ada (D := fun j => listed.getD j false = true) l [] (fun j i' _ hi' => by simp at hi') (fun j o' hj hD p hp => hdown j o' hj (by simpa using hD) p hp)
  have hearly : ∀ j f, es[j]? = some f → j < i → oN f e = true → listed.getD j false = true := fun j f hj hji hc => by
   have hgj : es.getD j MP = f := by rw [List.getD, hj]; rfl
   have hb := (hord i hil).2 j hji (by rw [hgj, hgi]; exact hc)
   have hD : ∀ j' i', (listed.getD j' false = true ∨ j' = i) → i' ∈ (Vd l []).getD j' [] → (listed.getD i' false = true ∨ i' = i) :=
    ada (D := fun j => listed.getD j false = true ∨ j = i) l [] (fun j i' _ hi' => by simp at hi') (fun j' o' hj' hD p hp => by
     simp only [List.length_nil, Nat.zero_add] at hD
     rcases hD with hD | rfl
     ·exact .inl (hdown j' o' hj' hD p hp)
     ·rw [hlo] at hj'; cases hj'
      simp only [Aw, List.mem_map, List.mem_filter] at hp
      obtain ⟨ed, ⟨he1, he2⟩, rfl⟩ := hp
      exact .inl (h3 ed (by simpa using he1) he2))
   rcases hD i j (.inr rfl) hb with h | h
   ·exact h
   ·omega
  have hlate : ∀ j f, es[j]? = some f → i < j → oN e f = true → listed.getD j false = false := fun j f hj hji hc => by
   have hjl : j < l.length := by have := (List.getElem?_eq_some_iff.1 hj).1; omega
   have hgj : es.getD j MP = f := by rw [List.getD, hj]; rfl
   have hb := (hord j hjl).2 i hji (by rw [hgj, hgi]; exact hc)
   cases hlj : listed.getD j false with
   | false => rfl
   | true => have := hbd j i hlj hb; rw [hi0] at this; cases this
  have hcommon : ∀ j f, es[j]? = some f → (oN f e = true ∨ oN e f = true → j ≠ i → listed.getD j false = decide (j < i)) := fun j f hj => by
   have hsym : oN f e = true ↔ oN e f = true := by
    simp only [oN, Bool.or_eq_true, List.any_eq_true, List.contains_iff_mem]
    constructor
    ·rintro (((⟨n, a1, a2 | a2⟩ | ⟨n, a1, a2⟩) | ⟨n, a1, a2 | a2⟩) | ⟨n, a1, a2⟩)
     ·exact .inl (.inl (.inr ⟨n, a1, a2⟩))
     ·exact .inl (.inl (.inl ⟨n, a2, .inr a1⟩))
     ·exact .inl (.inl (.inl ⟨n, a1, .inl a2⟩))
     ·exact .inr ⟨n, a1, a2⟩
     ·exact .inl (.inr ⟨n, a2, .inr a1⟩)
     ·exact .inl (.inr ⟨n, a1, .inl a2⟩)
    ·rintro (((⟨n, a1, a2 | a2⟩ | ⟨n, a1, a2⟩) | ⟨n, a1, a2 | a2⟩) | ⟨n, a1, a2⟩)
     ·exact .inl (.inl (.inr ⟨n, a1, a2⟩))
     ·exact .inl (.inl (.inl ⟨n, a2, .inr a1⟩))
     ·exact .inl (.inl (.inl ⟨n, a1, .inl a2⟩))
     ·exact .inr ⟨n, a1, a2⟩
     ·exact .inl (.inr ⟨n, a2, .inr a1⟩)
     ·exact .inl (.inr ⟨n, a1, .inl a2⟩)
   intro hc hne
   rcases Nat.lt_or_gt_of_ne hne with hlt' | hgt
   ·rw [hearly j f hj hlt' (hc.elim id hsym.2)]; simp [hlt']
   ·rw [hlate j f hj hgt (hc.elim hsym.1 id)]; simp; omega
  let D : Nat → Bool := fun j => listed.getD j false
  have hagree : Agree (s.wr (fQ D 0 es)) (s.wr (fQ (fun j => decide (j < i)) 0 es)) e := by
   refine ⟨by rw [(nO _ s).1, (nO _ s).1], by rw [(nO _ s).2, (nO _ s).2], fun n hn => ?_, fun n hn => ?_⟩
   ·by_cases hnl : n < s.tmps.length
    ·rw [GJ _ n s hnl, GJ _ n s hnl]
     congr 1
     refine Rq es 0 fun j f hj hw => ?_
     rw [Nat.zero_add]
     by_cases hji : j = i
     ·subst hji; show listed.getD j false = _; rw [hi0]; simp
     ·refine hcommon j f hj (.inl ?_) hji
      cases hc : oN f e with
      | true => rfl
      | false => exact ((ah5 hc hw).1 hn).elim
    ·have e1 : (s.wr (fQ D 0 es)).tmps.getD n .unk = .unk := by rw [List.getD, List.getElem?_eq_none (by rw [(nO _ s).1]; omega)]; rfl
     have e2 : (s.wr (fQ (fun j => decide (j < i)) 0 es)).tmps.getD n .unk = .unk := by rw [List.getD, List.getElem?_eq_none (by rw [(nO _ s).1]; omega)]; rfl
     rw [e1, e2]
   ·by_cases hnl : n < s.heap.length
    ·rw [Lf _ n s hnl, Lf _ n s hnl]
     congr 1
     refine RG es 0 fun j f hj hw => ?_
     rw [Nat.zero_add]
     by_cases hji : j = i
     ·subst hji; show listed.getD j false = _; rw [hi0]; simp
     ·refine hcommon j f hj (.inl ?_) hji
      cases hc : oN f e with
      | true => rfl
      | false => exact ((ah4 hc hw).1 hn).elim
    ·have e1 : obj? (s.wr (fQ D 0 es)).heap n = .dead := by rw [obj?, List.getElem?_eq_none (by rw [(nO _ s).2]; omega)]; rfl
     have e2 : obj? (s.wr (fQ (fun j => decide (j < i)) 0 es)).heap n = .dead := by rw [obj?, List.getElem?_eq_none (by rw [(nO _ s).2]; omega)]; rfl
     rw [e1, e2]
  have hstep := heff i o e hlo hei _ hagree
  have hDi : ∀ j, (listed.setIfInBounds i true).getD j false = (D j || decide (j = i)) := fun j => by
   by_cases hji : i = j
   ·subst hji; simp [Array.getD, hlt]
   ·simp only [Array.getD_eq_getD_getElem?, Array.getElem?_setIfInBounds_ne hji, D]
    simp [Ne.symm hji]
  have hstate : (s.wr (fQ D 0 es)).wr e.ws = s.wr (fQ (fun j => (listed.setIfInBounds i true).getD j false) 0 es) := by
   rw [← Jm]
   refine ASt.ext' (by rw [(nO _ s).1, (nO _ s).1]) (by rw [(nO _ s).2, (nO _ s).2]) (fun n hn => ?_) (fun n hn => ?_)
   ·rw [(nO _ s).1] at hn
    rw [GJ _ n s hn, GJ _ n s hn, Ic]
    congr 1
    by_cases hw : n ∈ qJ e.ws
    ·rw [am9 (D := fun j => (listed.setIfInBounds i true).getD j false) es 0 i e hei (by rw [Nat.zero_add, hDi]; simp) hw (fun j f hj hij hD' hwf => by
      rw [Nat.zero_add, hDi] at hD'
      have hji : j ≠ i := by omega
      have hDj : listed.getD j false = true := by simpa [hji, D] using hD'
      have hc : oN f e = true := by
       cases hc : oN f e with
       | true => rfl
       | false => exact ((ah5 hc hwf).2 hw).elim
      have := hcommon j f hj (.inl hc) hji
      rw [hDj] at this
      have hlt' : j < i := by simpa using this.symm
      omega)]
     obtain ⟨v, hv⟩ := YL hw
     rw [hv]; rfl
    ·rw [XA hw, Option.none_or]
     refine Rq es 0 fun j f hj hwf => ?_
     rw [Nat.zero_add, hDi]
     have hji : j ≠ i := fun e' => by subst e'; rw [hei] at hj; cases hj; exact hw hwf
     simp [hji, D]
   ·rw [(nO _ s).2] at hn
    rw [Lf _ n s hn, Lf _ n s hn, Hz]
    congr 1
    by_cases hw : n ∈ vC e.ws
    ·rw [anM (D := fun j => (listed.setIfInBounds i true).getD j false) es 0 i e hei (by rw [Nat.zero_add, hDi]; simp) hw (fun j f hj hij hD' hwf => by
      rw [Nat.zero_add, hDi] at hD'
      have hji : j ≠ i := by omega
      have hDj : listed.getD j false = true := by simpa [hji, D] using hD'
      have hc : oN f e = true := by
       cases hc : oN f e with
       | true => rfl
       | false => exact ((ah4 hc hwf).2 hw).elim
      have := hcommon j f hj (.inl hc) hji
      rw [hDj] at this
      have hlt' : j < i := by simpa using this.symm
      omega)]
     obtain ⟨v, hv⟩ := Zt hw
     rw [hv]; rfl
    ·rw [Zg hw, Option.none_or]
     refine RG es 0 fun j f hj hwf => ?_
     rw [Nat.zero_add, hDi]
     have hji : j ≠ i := fun e' => by subst e'; rw [hei] at hj; cases hj; exact hw hwf
     simp [hji, D]
  have hnext : ∀ κ' a' w', Sim C κ' ((s.wr (fQ D 0 es)).wr e.ws) a' w' → wpAny P .any l.toArray Q fuel (listed.setIfInBounds i true) a' w' := fun κ' a' w' hs2 => by
   rw [hstate] at hs2
   refine ih (listed.setIfInBounds i true) κ' a' w' (by simpa using hsz) (by have := aii hlt h1; omega) ?_ hs2
   intro j o' hj hlj p hp
   rw [hDi] at hlj ⊢
   by_cases hji : j = i
   ·subst hji
    rw [hlo] at hj; cases hj
    simp only [Aw, List.mem_map, List.mem_filter] at hp
    obtain ⟨ed, ⟨he1, he2⟩, rfl⟩ := hp
    have := h3 ed (by simpa using he1) he2
    simp only [D, this, Bool.true_or]
   ·have hlj' : listed.getD j false = true := by simpa [hji, D] using hlj
    have := hdown j o' hj hlj' p hp
    simp only [D, this, Bool.true_or]
  unfold wpOp
  rw [h2]
  dsimp only
  rcases hstep with ⟨hwd, ht⟩ | ⟨hwd, he⟩
  ·rw [DJ hsim hwd]
   simp only [if_true]
   exact .inl (ht C κ a w hsim _ _ hnext)
  ·rw [DJ hsim hwd]
   simp only [Bool.false_eq_true, if_false]
   refine hnext κ _ w ?_
   rw [he]
   exact hsim.aY _ zB
theorem fE.drawn {P : Program} {id : Nat} {l : List Oper} {es : List Eff} {Q : Exit → ASt → Prop} {s s' : ASt} (n : Nat) (hm : P.follows .mixedOrders = true) (h : ATr P l.toArray l es (s.reserve n) s') (hok : yQ l es = true) (hq : Q .normal s') : fE P (.region id l.toArray true) Q s := by
 intro C κ a w hs
 refine wp_region_any hm ?_
 have hr := (hs.reserve n).sameHeap (w' := { w with drawn := w.drawn + 1 }) rfl rfl rfl rfl
 have hfl : fQ (fun i => (Array.replicate l.length false).getD i false) 0 es = [] := by
  have hz : ∀ (D : Nat → Bool) (es : List Eff) (k : Nat), (∀ i, D i = false) → fQ D k es = [] := fun D es => by
   induction es with
   | nil => intro k _; rfl
   | cons e es ih => intro k hD; simp [fQ, ih _ hD, hD]
  refine hz _ es 0 fun i => ?_
  simp [Array.getD]
 have := aiT (C := C) (Q := fun e a' w' => ∃ s'' κ', Q e s'' ∧ Sim C κ' s'' a' w') h hok (fun κ' a' w' hs' => ⟨s', κ', hq, hs'⟩) l.length (Array.replicate l.length false) _ a _ (by simp) (by simp) (fun j o _ hl => by simp [Array.getD] at hl) (by rw [hfl]; exact hr)
 simpa using this
def AP (P : Program) (s : ASt) : List ResultVar → Option (List AV)
 | [] => some []
 | .tmp t :: r => (AP P s r).map (s.tmps.getD t .unk :: ·)
 | .cell a t :: r => match s.tmps.getD a .unk with
  | .ptr l off => match obj? s.heap l with
   | .box cs => match lN P t (cs.drop off) with
    | some v => (AP P s r).map (v :: ·)
    | none => none
   | _ => none
  | _ => none
def DZ (wk : Bool) : List AV → AV
 | [x] => if wk then wV x else x
 | xs => .bq (if wk then xs.map wV else xs)
def PX (tmps : Array Value) : ResultVar → Sem Value
 | .tmp t => pure (tmps.getD t undef)
 | .cell a t => do loadVar t (← asAddr (tmps.getD a undef))
theorem XW (fn : Func) (tmps : Array Value) : results fn tmps = (do let vs ← fn.results.mapM (PX tmps); pure (if h : vs.size = 1 then vs[0] else .tuple vs)) := by
 unfold results
 congr 1
theorem Ux {P : Program} {C : Ctx} {κ : dG} {s : ASt} {a : Act} {w : World} (hs : Sim C κ s a w) : ∀ (rs : List ResultVar) (xs : List AV), AP P s rs = some xs →
  ∃ vs : List Value, vs.length = xs.length ∧ (∀ j, j < xs.length → Rel w κ (bA C.bH κ s.heap) (xs.getD j .unk) (vs.getD j undef)) ∧ (rs.mapM (PX a.tmps)).run P w = .ok vs w := by
 intro rs
 induction rs with
 | nil => intro xs h; simp only [AP, Option.some.injEq] at h; subst h; exact ⟨[], rfl, fun j hj => (by cases hj), by simp⟩
 | cons r rs ih =>
  intro xs h
  have key : ∀ (v : AV) (u : Value) (ys : List AV), AP P s rs = some ys → xs = v :: ys → Rel w κ (bA C.bH κ s.heap) v u → (PX a.tmps r).run P w = .ok u w →
    ∃ vs : List Value, vs.length = xs.length ∧ (∀ j, j < xs.length → Rel w κ (bA C.bH κ s.heap) (xs.getD j .unk) (vs.getD j undef)) ∧ ((r :: rs).mapM (PX a.tmps)).run P w = .ok vs w := fun v u ys hys hxs hv hrun => by
   obtain ⟨vs, h1, h2, h3⟩ := ih ys hys
   subst hxs
   refine ⟨u :: vs, by simp [h1], fun j hj => ?_, ?_⟩
   ·cases j with
    | zero => simpa [List.getD] using hv
    | succ j => have := h2 j (by simpa using hj); simpa [List.getD] using this
   ·rw [List.mapM_cons]
    simp only [Sem.run_bind, hrun, Result.andThen_ok, h3, Sem.run_pure]
  cases r with
  | tmp t =>
   simp only [AP] at h
   cases hys : AP P s rs with
   | none => rw [hys] at h; cases h
   | some ys =>
    rw [hys] at h; simp only [Option.map_some, Option.some.injEq] at h
    refine key _ (a.tmps.getD t undef) ys hys h.symm ?_ (by simp [PX])
    exact hs.ev (.tmp t)
  | cell x t =>
   simp only [AP] at h
   split at h
   ·rename_i l off hx
    split at h
    ·rename_i cs hl
     split at h
     ·rename_i v hv
      cases hys : AP P s rs with
      | none => rw [hys] at h; cases h
      | some ys =>
       rw [hys] at h; simp only [Option.map_some, Option.some.injEq] at h
       have hr := hs.ev (.tmp x)
       simp only [fV, Act.eval] at hr
       rw [hx] at hr
       obtain ⟨b, e, hb⟩ := hr.yR
       obtain ⟨c, el, g1, g2, g3, g4⟩ := hs.box hb hl
       obtain ⟨y, g5, g6⟩ := DX (P := P) (w := w) (κ := κ) (pv := bA C.bH κ s.heap) (b := b) (off := off) (cs := cs.drop off) (fun j => c.getD (off + j) undef)
        (fun j hj => g3 _ (by simp at hj; omega)) (fun j hj => by rw [getD_drop]; exact g4 _ (by simp at hj; omega)) hv
       exact key v y ys hys h.symm g6 (by simp only [PX, e]; simp [asAddr, g5])
     ·cases h
    ·cases h
   ·cases h
def Mh (P : Program) (rs : List ResultVar) (wk : Bool) (L : List Nat) (H : List AObj) (res : AV) (H' : List AObj) (s : ASt) : Prop :=
 ∃ xs, AP P s rs = some xs ∧ DZ wk xs = ren (nm L s.heap.length) res ∧ L.Nodup ∧ H'.length = L.length ∧ H.length ≤ L.length ∧ (∀ i, i < H.length → L[i]? = some i) ∧ (∀ l ∈ L, l < s.heap.length) ∧
  ∀ i l, L[i]? = some l → obj? s.heap l = cO (nm L s.heap.length) (obj? H' i)
def adW (R : ASt → Prop) : Exit → ASt → Prop
 | .normal, s => R s
 | .ret, s => R s
 | _, _ => False
theorem Kn {P : Program} {f : Nat} {fn : Func} {c : Code} {args : List AV} {H H' : List AObj} {res : AV} (wk : Bool) (L : List Nat) (hf : P.funcs[f]? = some fn) (hb : fn.body = some c) (hlen : args.length ≤ fn.ntmps)
  (h : fE P c (adW (Mh P fn.results.toList wk L H res H')) ⟨args ++ List.replicate (fn.ntmps - args.length) (.bq []), H⟩) : ak P f args H res H' := by
 intro κ bH w vs hen hvl hr
 let C : Ctx := { bH := bH, old := fun b => b < w.heap.size ∧ ∀ l, at? κ l = some b → ¬ live (obj? H l), w0 := w, k0 := κ, pvE := bA bH κ H }
 refine calls_of_wp hf hb ?_
 have hsim : Sim C κ ⟨args ++ List.replicate (fn.ntmps - args.length) (.bq []), H⟩ { tmps := vs.toArray ++ Array.replicate (fn.ntmps - vs.toArray.size) undef, defers := [] } w := by
  refine ⟨rfl, by simp [hvl], ?_, hen.klen, gT.refl _, hen.resv, hen.obj, hen.apart, fun l b h1 h2 ho => ho.2 l h1 h2, hen.bound, fun b o h => ⟨hen.pvlt b o h, fun l hl => hen.pvdis b o l h hl⟩, fun b hb => hb.1, fun _ _ => rfl, rfl, rfl, rfl, Nat.le_refl _, fun _ _ h _ => h, Evo.refl _ _⟩
  intro n hn
  simp only [List.length_append, List.length_replicate] at hn
  by_cases hlt : n < args.length
  ·have e1 : (args ++ List.replicate (fn.ntmps - args.length) (AV.bq [])).getD n .unk = args.getD n .unk := by simp [List.getD, List.getElem?_append_left hlt]
   have e2 : (vs.toArray ++ Array.replicate (fn.ntmps - vs.toArray.size) undef).getD n undef = vs.getD n undef := by
    rw [Array.getD_eq_getD_getElem?, Array.getElem?_append_left (by simp; omega)]; simp [List.getD]
   rw [e1, e2]; exact hr n hlt
  ·have e1 : (args ++ List.replicate (fn.ntmps - args.length) (AV.bq [])).getD n .unk = .bq [] := by
    rw [List.getD, List.getElem?_append_right (Nat.le_of_not_lt hlt), List.getElem?_replicate, if_pos (by omega)]; rfl
   have e2 : (vs.toArray ++ Array.replicate (fn.ntmps - vs.toArray.size) undef).getD n undef = undef := by
    rw [Array.getD_eq_getD_getElem?, Array.getElem?_append_right (by simp; omega), Array.getElem?_replicate]
    split <;> rfl
   rw [e1, e2]; exact zB
 have hfin : ∀ (s : ASt) (κf : dG) (a : Act) (w' : World), Mh P fn.results.toList wk L H res H' s → Sim C κf s a w' → a.defers = [] ∧ ∃ v, (results fn a.tmps).run P w' = .ok v w' ∧ ∃ v' κ', Ending.returned v = .returned v' ∧ Leave κ κ' bH H H' w w' ∧ Rel w' κ' (bA bH κ' H') res v' := by
  intro s κf a w' hq hs
  obtain ⟨xs, q1, q2, q3, q4, q5, q6, q7, q8⟩ := hq
  refine ⟨hs.defers, ?_⟩
  obtain ⟨us, u1, u2, u3⟩ := Ux hs _ _ q1
  let κ' : dG := L.map (at? κf)
  let g := nm L s.heap.length
  have hat : ∀ i b, at? κ' i = some b → ∃ l, L[i]? = some l ∧ at? κf l = some b := fun i b hb => by
   simp only [κ'] at hb; rw [at?_map] at hb
   cases hi : L[i]? with
   | none => rw [hi] at hb; cases hb
   | some l => rw [hi] at hb; exact ⟨l, rfl, hb⟩
  have hdown : ∀ i, at? κ' i = at? κf (g i) := fun i => by
   simp only [κ', g, nm]; rw [at?_map]
   cases hi : L[i]? with
   | some l => rfl
   | none => simp only [Option.getD_none]; rw [at?_none_of_le (by rw [hs.klen]; exact Nat.le_refl _)]
  have hpv : ∀ b o, bA bH κ' H' b o → bA bH κf s.heap b o := by
   rintro b o (h | ⟨i, h1, h2⟩)
   ·exact .inl h
   ·obtain ⟨l, hl, hb⟩ := hat i b h1
    exact .inr ⟨l, hb, by rw [q8 i l hl, C8]; exact h2⟩
  have hrel : ∀ {x : AV} {u : Value}, Rel w' κf (bA bH κf s.heap) (ren g x) u → Rel w' κ' (bA bH κ' H') x u := fun hx =>
   (hx.BM hdown _ rfl).mono (Evo.refl _ _) (gT.refl _) (fun b o h _ => hpv b o h)
  have hleave : Leave κ κ' bH H H' w w' := by
   refine ⟨by simp [κ', q4], by omega, ?_, ?_, ?_, ?_, ?_, ?_, ?_, hs.evo, fun b o h hlt => hs.pvsub b o (hpv b o h) hlt, hs.os, hs.tape, hs.output⟩
   ·intro i b hb
    have hi : i < H.length := by rw [← hen.klen]; exact lt_of_at? hb
    rw [hdown i]
    have : g i = i := by simp only [g, nm, q6 i hi]; rfl
    rw [this]; exact hs.kext i b hb
   ·intro i hi
    rw [hdown i]
    cases h0 : L[i]? with
    | none => simp only [g, nm, h0, Option.getD_none]; exact at?_none_of_le (by rw [hs.klen]; exact Nat.le_refl _)
    | some l =>
     simp only [g, nm, h0, Option.getD_some]
     exact hs.resv l (by rw [q8 i l h0, hi]; rfl)
   ·intro i b h1 h2
    obtain ⟨l, hl, hb⟩ := hat i b h1
    have := hs.obj l b hb (by rw [q8 i l hl, iX]; exact h2)
    rw [q8 i l hl] at this
    exact (this.BM hdown).mono rfl (Evo.refl _ _) (gT.refl _) (fun b o h _ => hpv b o h)
   ·intro i b h1 h2
    obtain ⟨l, hl, hb⟩ := hat i b h1
    have hno := hs.own l b hb (by rw [q8 i l hl, iX]; exact h2)
    by_cases hlt : b < w.heap.size
    ·right
     apply Classical.byContradiction
     intro hne
     exact hno ⟨hlt, fun l0 h0 hlv => hne ⟨l0, h0, hlv⟩⟩
    ·left; omega
   ·intro i j b h1 h2 h3 h4
    obtain ⟨l, hl, hb⟩ := hat i b h1
    obtain ⟨l', hl', hb'⟩ := hat j b h2
    have e := hs.apart l l' b hb hb' (by rw [q8 i l hl, iX]; exact h3) (by rw [q8 j l' hl', iX]; exact h4)
    subst e
    exact (List.getElem?_inj (List.getElem?_eq_some_iff.1 hl).1 q3).1 (hl.trans hl'.symm)
   ·intro i b h1
    obtain ⟨l, _, hb⟩ := hat i b h1
    exact hs.bound l b hb
   ·intro b hb hnl
    exact hs.old b ⟨hb, hnl⟩
  have hresrel : ∀ (x : AV) (u : Value), Rel w' κf (bA bH κf s.heap) x u → Rel w' κf (bA bH κf s.heap) (if wk then wV x else x) u := fun x u hx => by
   cases wk
   ·exact hx
   ·exact hx.wV
  have hrun : ∃ v, (results fn a.tmps).run P w' = .ok v w' ∧ Rel w' κf (bA bH κf s.heap) (DZ wk xs) v := by
   have hm : (fn.results.mapM (PX a.tmps)).run P w' = .ok us.toArray w' := by
    rw [Array.mapM_eq_mapM_toList]
    simp only [Sem.run_map, u3, Result.andThen_ok]
   rw [XW]
   simp only [Sem.run_bind, hm, Result.andThen_ok, Sem.run_pure]
   by_cases h1 : us.length = 1
   ·match us, h1 with
    | [u], _ =>
     match xs, u1 with
     | [x], _ =>
      refine ⟨u, by simp, ?_⟩
      have := u2 0 (by simp)
      simp only [List.getD, List.getElem?_cons_zero, Option.getD_some] at this
      exact hresrel x u this
   ·refine ⟨.tuple us.toArray, by simp [h1], ?_⟩
    have hx : DZ wk xs = .bq (if wk then xs.map wV else xs) := by
     match xs, u1 with
     | [], _ => rfl
     | [x], h => exact (h1 (by simpa using h)).elim
     | _ :: _ :: _, _ => rfl
    rw [hx]
    refine .bq (by split <;> simp [u1]) fun j hj => ?_
    have hj' : j < xs.length := by split at hj <;> simpa using hj
    have := hresrel _ _ (u2 j hj')
    cases wk
    ·exact this
    ·simp only [if_true] at this ⊢
     have e : (xs.map wV).getD j .unk = wV (xs.getD j .unk) := by simp [List.getD, List.getElem?_eq_getElem hj']
     rw [e]; exact this
  obtain ⟨v, hv1, hv2⟩ := hrun
  rw [q2] at hv2
  exact ⟨v, hv1, v, κ', rfl, hleave, hrel hv2⟩
 refine wp_mono (h C κ _ w hsim) ?_
 rintro e a w' ⟨s, κf, hq, hs⟩
 cases e with
 | normal => exact hfin s κf a w' hq hs
 | ret => exact hfin s κf a w' hq hs
 | exit id => exact hq.elim
 | goto l => exact hq.elim
 | panic c => exact hq.elim
 | outgrown => exact hq.elim
def fq (ops : Array Oper) (o : Oper) : List Nat :=
 (o.op.operands.toList.filterMap fun | .tmp t => some t | _ => none) ++ (match o.guard with | some (g, _) => ((ops[g]?).bind (·.dst)).toList | none => [])
theorem acI {tm tm' : List AV} {ops : Array Oper} {o : Oper} (h : ∀ n ∈ fq ops o, tm'.getD n .unk = tm.getD n .unk) : ∀ x ∈ o.op.operands, fV tm' x = fV tm x := by
 intro x hx
 cases x with
 | tmp t => exact h t (List.mem_append_left _ (List.mem_filterMap.2 ⟨.tmp t, by simpa using hx, rfl⟩))
 | const v => rfl
 | func f => rfl
 | global g => rfl
theorem BR {tm tm' : List AV} {ops : Array Oper} {o : Oper} (h : ∀ n ∈ fq ops o, tm'.getD n .unk = tm.getD n .unk) : jR ops tm' o = jR ops tm o := by
 unfold jR
 cases hg : o.guard with
 | none => rfl
 | some p =>
  obtain ⟨j, want⟩ := p
  simp only
  cases hd : (ops[j]?).bind (·.dst) with
  | none => rfl
  | some d =>
   simp only
   rw [h d (by unfold fq; rw [hg]; simp [hd])]
theorem II {P : Program} {ops : Array Oper} {o : Oper} {s : ASt} {k : Nat} {rd : List Nat} {ws : List Wr} (hw : jR ops s.tmps o = some true) (h : bO P k o (fV s.tmps) (obj? s.heap) = some (rd, ws)) : H8 P ops o s ⟨fq ops o, rd, ws⟩ := by
 intro t ht
 refine .inl ⟨by rw [BR ht.rs]; exact hw, ajr (k := k) (rd := rd) ?_⟩
 exact ad4 h (acI ht.rs) ht.ro
theorem Iw {P : Program} {ops : Array Oper} {o : Oper} {s : ASt} (hw : jR ops s.tmps o = some false) : H8 P ops o s ⟨fq ops o, [], aY o.dst (.bq [])⟩ := by
 intro t ht
 exact .inr ⟨by rw [BR ht.rs]; exact hw, rfl⟩
inductive Keep {α : Type} (a : α) : Type where
 | mk : Keep a
def Di (P : Program) (f : Nat) (args : List AV) (dst : Option Tmp) (s : ASt) (k : Nat) (K : Nat → List Nat → List Wr → Prop) (_ : Keep K) : Prop :=
 aF P f = true ∧ ∃ (ρ ks : List Nat) (aargs : List AV) (H : List AObj) (res : AV) (H' : List AObj), Passes s ρ ks H ∧ H'.length = (ρ ++ ks).length ∧ SWs args (aargs.map (ren (nm (ρ ++ ks) s.heap.length))) ∧ ak P f aargs H res H' ∧
  K (k + ks.length) (ρ ++ ks) (vE (ρ ++ ks) (H'.map (cO (nm (ρ ++ ks) s.heap.length))) ++ aY dst (ren (nm (ρ ++ ks) s.heap.length) res))
theorem Ht {P : Program} {ops : Array Oper} {o : Oper} {s : ASt} {fo : Operand} {args : Array Operand} {argTypes : Array TypeId} {f : Nat} {caps aargs : List AV} {ρ ks : List Nat} {H H' : List AObj} {res : AV} (hw : jR ops s.tmps o = some true)
  (ho : o.op = .call { callee := .value fo, args, argTypes }) (hf : fV s.tmps fo = .func f caps) (hok : aF P f = true) (hp : Passes s ρ ks H) (hH : H'.length = (ρ ++ ks).length)
  (hargs : SWs (args.toList.map (fV s.tmps) ++ caps) (aargs.map (ren (nm (ρ ++ ks) s.heap.length)))) (hc : ak P f aargs H res H') :
  H8 P ops o s ⟨fq ops o, ρ ++ ks, vE (ρ ++ ks) (H'.map (cO (nm (ρ ++ ks) s.heap.length))) ++ aY o.dst (ren (nm (ρ ++ ks) s.heap.length) res)⟩ := by
 intro t ht
 have hop := acI ht.rs
 have hfo : fo ∈ o.op.operands := by rw [ho]; simp [Op.operands, Call.operands]
 have hp' : Passes t ρ ks H := by
  refine ⟨hp.nodup, hp.hlen, fun l hl => by rw [ht.hl]; exact hp.lt l hl, fun l hl => by rw [ht.ro l (List.mem_append_right _ hl)]; exact hp.res l hl, fun i l hi => ?_⟩
  rw [ht.ro l (List.mem_append_left _ (List.mem_of_getElem? hi)), ht.hl]; exact hp.obj i l hi
 have hmap : args.toList.map (fV t.tmps) = args.toList.map (fV s.tmps) := yF _ (fun x hx => hop x (by rw [ho]; simp only [Op.operands, Call.operands]; exact Array.mem_append.2 (.inr (Array.mem_toList_iff.1 hx))))
 have := anO (P := P) (o := o) (s := t) ho (by rw [hop fo hfo]; exact hf) hok hp' hH (by rw [hmap, ht.hl]; exact hargs) hc
 rw [ht.hl] at this
 exact .inl ⟨by rw [BR ht.rs]; exact hw, this⟩
def kX : Op → Nat
 | .alloc _ => 1
 | .box _ _ => 1
 | .makeMap _ _ => 1
 | .buildSlice _ _ _ => 1
 | .call { callee := .builtin .append, .. } => 1
 | _ => 0
def oF : Op → Option (Operand × Array Operand)
 | .call { callee := .value f, args, .. } => some (f, args)
 | _ => none
theorem Bz {op : Op} {f : Operand} {args : Array Operand} (h : oF op = some (f, args)) : ∃ t, op = .call { callee := .value f, args, argTypes := t } := by
 unfold oF at h
 split at h
 ·cases h; exact ⟨_, rfl⟩
 ·cases h
def LZ (r : Option Bool) (A B : Prop) (_ : Keep (A, B)) : Prop := ∃ c, r = some c ∧ (c = true → A) ∧ (c = false → B)
def abq (r : Option (List Nat × List Wr)) (f : List Nat → List Wr → Prop) (_ : Keep f) : Prop := ∃ rd ws, r = some (rd, ws) ∧ f rd ws
def afy (v : AV) (f : Nat → List AV → Prop) (_ : Keep f) : Prop := ∃ fid caps, v = .func fid caps ∧ f fid caps
def zf (P : Program) (ops : Array Oper) : List Oper → Nat → List Eff → ASt → (List Eff → ASt → Prop) → Prop
 | [], _, es, s, K => K es.reverse s
 | o :: l, k, es, s, K => LZ (jR ops s.tmps o)
   (match oF o.op with
    | some (f, args) => afy (fV s.tmps f) (fun fid caps => Di P fid (args.toList.map (fV s.tmps) ++ caps) o.dst s k (fun k' ro ws => zf P ops l k' (⟨fq ops o, ro, ws⟩ :: es) (s.wr ws) K) .mk) .mk
    | none => abq (bO P k o (fV s.tmps) (obj? s.heap)) (fun rd ws => zf P ops l (k + kX o.op) (⟨fq ops o, rd, ws⟩ :: es) (s.wr ws) K) .mk)
   (zf P ops l k (⟨fq ops o, [], aY o.dst (.bq [])⟩ :: es) (s.wr (aY o.dst (.bq []))) K) .mk
theorem UG {P : Program} {ops : Array Oper} : ∀ (l : List Oper) (k : Nat) (es : List Eff) (s : ASt) (K : List Eff → ASt → Prop), zf P ops l k es s K → ∃ es' s', ATr P ops l es' s s' ∧ K (es.reverse ++ es') s' := by
 intro l
 induction l with
 | nil => intro k es s K h; exact ⟨[], s, .nil s, by simpa [zf] using h⟩
 | cons o l ih =>
  intro k es s K h
  obtain ⟨c, hc, h1, h2⟩ := h
  have fin : ∀ (e : Eff) (k' : Nat), H8 P ops o s e → zf P ops l k' (e :: es) (s.wr e.ws) K → ∃ es' s', ATr P ops (o :: l) es' s s' ∧ K (es.reverse ++ es') s' := fun e k' he hw => by
   obtain ⟨es', s', g1, g2⟩ := ih k' (e :: es) _ K hw
   exact ⟨e :: es', s', .cons he g1, by simpa using g2⟩
  cases c with
  | false => exact fin _ k (Iw hc) (h2 rfl)
  | true =>
   have h1 := h1 rfl
   cases hcall : oF o.op with
   | none =>
    rw [hcall] at h1
    obtain ⟨rd, ws, g1, g2⟩ := h1
    exact fin _ _ (II hc g1) g2
   | some p =>
    obtain ⟨f, args⟩ := p
    rw [hcall] at h1
    obtain ⟨fid, caps, g1, hok, ρ, ks, aargs, H, res, H', g2, g3, g4, g5, g6⟩ := h1
    obtain ⟨t, ho⟩ := Bz hcall
    exact fin _ _ (Ht hc ho g1 hok g2 g3 g4 g5) g6
theorem fE.arz {P : Program} {id : Nat} {l : List Oper} {Q : Exit → ASt → Prop} {s : ASt} (n : Nat) (hm : P.follows .mixedOrders = true) (h : zf P l.toArray l s.heap.length [] (s.reserve n) fun es s' => yQ l es = true ∧ Q .normal s') : fE P (.region id l.toArray true) Q s := by
 obtain ⟨es, s', h1, h2, h3⟩ := UG _ _ _ _ _ h
 exact fE.drawn n hm h1 (by simpa using h2) h3
theorem fE.uq {P : Program} {x y : Code} {Q : Exit → ASt → Prop} {s : ASt} (h : ∀ K : ASt → Prop, (∀ s, fE P y Q s → K s) → fE P x (Rj K Q) s) : fE P (.seq x y) Q s := fE.seq (h _ fun _ h => h)
def RB (P : Program) (f : Nat) (args : List AV) (res : AV) : Prop := (∀ g, args.map (ren g) = args) ∧ (∀ g, ren g res = res) ∧ ak P f args [] res []
theorem Di.pure {P : Program} {f : Nat} {args : List AV} {dst : Option Tmp} {s : ASt} {k : Nat} {K : Nat → List Nat → List Wr → Prop} {res : AV} (h : RB P f args res) (hok : aF P f = true) (hK : K k [] (aY dst res)) : Di P f args dst s k K .mk := by
 refine ⟨hok, [], [], args, [], res, [], ⟨by simp, rfl, fun l hl => (by cases hl), fun l hl => (by cases hl), fun i l hi => by simp at hi⟩, rfl, by rw [h.1]; exact SWs.refl _, h.2.2, ?_⟩
 simp only [List.append_nil, List.length_nil, Nat.add_zero, List.map_nil, vE, List.nil_append, h.2.1]
 exact hK
section
variable {P : Program} {k : Nat} {d : Option Tmp} {ty : TypeId} {ps : String} {af : Array Edge} {gd : Option (Nat × Bool)} {ρ : Operand → AV} {σ : Nat → AObj}
def nT (d : Option Tmp) (r : Option AV) : Option (List Nat × List Wr) := r.map fun v => ([], aY d v)
def XU (P : Program) (t : TypeId) (σ : Nat → AObj) (d : Option Tmp) : AV → Option (List Nat × List Wr)
 | .eptr cs => nT d (lN P t cs)
 | .ptr l off => match σ l with
  | .box cs => (lN P t (cs.drop off)).map fun v => ([l], aY d v)
  | .arr z es => if off = off / z * z ∧ off / z < es.length then (lN P t (es.getD (off / z) [])).map fun v => ([l], aY d v) else none
  | _ => none
 | _ => none
def Xf (P : Program) (t : TypeId) (σ : Nat → AObj) (d : Option Tmp) : AV → Option (List AV) → Option (List Nat × List Wr)
 | .ptr l off, some vs => match σ l with
  | .box cs => if sizeT P t = some vs.length ∧ off + vs.length ≤ cs.length ∧ vs.all isScalar then some ([l], .obj l (.box (cs.take off ++ vs ++ cs.drop (off + vs.length))) :: aY d (.bq [])) else none
  | .arr z es => if sizeT P t = some vs.length ∧ vs.length = z ∧ off = off / z * z ∧ off / z < es.length ∧ vs.all isScalar then some ([l], .obj l (.arr z (es.set (off / z) vs)) :: aY d (.bq [])) else none
  | _ => none
 | _, _ => none
def ajv (x : AV) : Option AV := match x with | .ptr l o => some (.ptr l o) | .eptr cs => some (.eptr cs) | .func f cs => some (.func f cs) | .flist (cs :: r) => some (.eptr (cs ++ [.flist r])) | _ => none
def unK (op : UnOp) (x : AV) : Option AV := match op, x with | .not, .bool b => some (.bool (!b)) | .neg, .int k n => some (.int k (k.wrap (0 - n))) | _, _ => none
def MV (f : Option (Nat × TypeId)) (x : AV) : Option AV := match f with | some (fo, _) => (match x with | .ptr l o => some (.ptr l (o + fo)) | .eptr cs => some (.eptr (cs.drop fo)) | _ => none) | none => none
def aiW (st : Bool) (sl : Option Nat) (x : AV) : Option AV := match x with | .str s => if st then some (.int .i64 s.length) else none | .slice es _ => if sl.isSome then some (.int .i64 es.length) else none | .psl _ _ n => if sl.isSome then some (.int .i64 n) else none | _ => none
theorem abI (t : Nat) (x : Operand) : bO P k ⟨d, .load t x, ty, ps, af, gd⟩ ρ σ = XU P t σ d (ρ x) := by
 unfold bO
 simp only [bf]
 cases ρ x <;> simp only [XU]
 case eptr cs => cases lN P t cs <;> rfl
 case ptr l off => cases σ l <;> rfl
theorem UR (t : Nat) (x y : Operand) : bO P k ⟨d, .store t x y, ty, ps, af, gd⟩ ρ σ = Xf P t σ d (ρ x) (lW (ρ y)) := rfl
theorem afg (t : Nat) : bO P k ⟨d, .alloc t, ty, ps, af, gd⟩ ρ σ = if eF (σ k) then (iO P t).map fun z => ([k], .obj k (.box z) :: aY d (.ptr k 0)) else none := rfl
theorem alI (t : Nat) (x : Operand) : bO P k ⟨d, .box t x, ty, ps, af, gd⟩ ρ σ = if eF (σ k) then (lW (ρ x)).map fun cs => ([k], .obj k (.box cs) :: aY d (.ptr k 0)) else none := rfl
theorem ZL (t : Nat) : bO P k ⟨d, .makeMap t none, ty, ps, af, gd⟩ ρ σ = if eF (σ k) then some ([k], .obj k (.mp []) :: aY d (.mapr k)) else none := rfl
end
section
variable {P : Program} {ops : Array Oper} {l : List Oper} {k : Nat} {es : List Eff} {s : ASt}
end
end Abs
end Go.Proofs.YtiiaccpcoclklaaGreat
namespace Go.Proofs.YtiiaccpcoclklaaGreat
namespace Abs
open Go
abbrev Str := List UInt8
inductive Ty where
 | mk (kind : Int) (name : Str) (kids : List Ty)
def Ty.kind : Ty → Int | .mk k _ _ => k
def Ty.name : Ty → Str | .mk _ n _ => n
def Ty.kids : Ty → List Ty | .mk _ _ ks => ks
inductive Tm where
 | mk (op : Int) (name : Str) (n : Int) (ty : Ty) (kids : List Tm)
def Tm.op : Tm → Int | .mk k _ _ _ _ => k
def Tm.name : Tm → Str | .mk _ n _ _ _ => n
def Tm.n : Tm → Int | .mk _ _ n _ _ => n
def Tm.ty : Tm → Ty | .mk _ _ _ t _ => t
def Tm.kids : Tm → List Tm | .mk _ _ _ _ ks => ks
mutual
def aK : Ty → List AV
 | .mk k n ks => [.int .i64 k, .str n, .slice (Ig ks) .shared]
def Ig : List Ty → List (List AV)
 | [] => []
 | t :: ts => aK t :: Ig ts
end
mutual
def aS : Tm → List AV
 | .mk k n m t ks => [.int .i64 k, .str n, .int .i64 m] ++ aK t ++ [.slice (IG ks) .shared]
def IG : List Tm → List (List AV)
 | [] => []
 | t :: ts => aS t :: IG ts
end
theorem MB : ∀ ts, Ig ts = ts.map aK
 | [] => rfl
 | t :: ts => by simp [Ig, MB ts]
theorem Ng : ∀ ts, IG ts = ts.map aS
 | [] => rfl
 | t :: ts => by simp [IG, Ng ts]
@[go_sem] theorem aR (t : Ty) : aK t = [.int .i64 t.kind, .str t.name, .slice (t.kids.map aK) .shared] := by
 cases t; simp [aK, MB, Ty.kind, Ty.name, Ty.kids]
@[go_sem] theorem aX (t : Tm) : aS t = [.int .i64 t.op, .str t.name, .int .i64 t.n, .int .i64 t.ty.kind, .str t.ty.name, .slice (t.ty.kids.map aK) .shared, .slice (t.kids.map aS) .shared] := by
 cases t; simp [aS, Ng, Tm.op, Tm.name, Tm.n, Tm.ty, Tm.kids, aR]
mutual
theorem ac4 (g : Nat → Nat) : ∀ t, bW g (aK t) = aK t
 | .mk k n ks => by simp only [aK, bW, ren, dJ, Gr g ks]
theorem Gr (g : Nat → Nat) : ∀ ts, bK g (Ig ts) = Ig ts
 | [] => rfl
 | t :: ts => by simp only [Ig, bK, ac4 g t, Gr g ts]
end
mutual
theorem acF (g : Nat → Nat) : ∀ t, bW g (aS t) = aS t
 | .mk k n m (.mk a b c) ks => by
  simp only [aS, aK, List.cons_append, List.nil_append, bW, ren, dJ, Nv g ks, Gr g c]
theorem Nv (g : Nat → Nat) : ∀ ts, bK g (IG ts) = IG ts
 | [] => rfl
 | t :: ts => by simp only [IG, bK, acF g t, Nv g ts]
end
theorem ain (g : Nat → Nat) (ts : List Ty) : bK g (ts.map aK) = ts.map aK := by rw [← MB]; exact Gr g ts
theorem aoO (g : Nat → Nat) (ts : List Tm) : bK g (ts.map aS) = ts.map aS := by rw [← Ng]; exact Nv g ts
abbrev aV (t : Ty) : AV := .agg [.int .i64 t.kind, .str t.name, .slice (t.kids.map aK) .shared]
abbrev bg (t : Tm) : AV := .agg [.int .i64 t.op, .str t.name, .int .i64 t.n, .int .i64 t.ty.kind, .str t.ty.name, .slice (t.ty.kids.map aK) .shared, .slice (t.kids.map aS) .shared]
end Abs
end Go.Proofs.YtiiaccpcoclklaaGreat
namespace Go.Proofs.YtiiaccpcoclklaaGreat
namespace Abs
open Go
inductive IxT where
 | sl (sz : Option Nat)
 | arr (len : Nat) (sz : Option Nat)
 | no
structure TI where
 size : Option Nat
 agg : Option Bool
 isPtr : Bool
 isBool : Bool
 isStr : Bool
 isStruct : Bool
 isSl : Bool
 int : Option IntKind
 ix : IxT
 field : List (Option (Nat × TypeId))
 place : List (Option (Nat × Nat))
 zero : Option (List AV)
 zav : Option AV
 slT : Option Nat
 elem : Option (TypeId × Nat × Nat)
 smap : Option TypeId
def intTy (P : Program) (t : TypeId) : Option IntKind := match P.underlying t with | some (.int k) => some k | _ => none
def V9 (P : Program) (t : TypeId) : IxT := match P.underlying t with | some (.slice e) => .sl (sizeT P e) | some (.array n e) => .arr n (sizeT P e) | _ => .no
def aac (P : Program) (t : TypeId) : List (Option (Nat × TypeId)) := match P.underlying t with | some (.struct fs) => fs.toList.map fun x => (match sizeT P x.type with | some (_ + 1) => some (x.offset, x.type) | _ => none) | _ => []
def ab2 (P : Program) (t : TypeId) : List (Option (Nat × Nat)) := match P.underlying t with | some (.struct fs) => fs.toList.map fun f => (sizeT P f.type).map fun n => (f.offset, n) | _ => []
def TI.of (P : Program) (t : TypeId) : TI :=
 { size := sizeT P t, agg := iq P t, isPtr := Zm P t, isBool := Ri P t, isStr := bf.isStrT P t, isStruct := jO P t, isSl := bO.isSliceT P t, int := intTy P t, ix := V9 P t, field := aac P t, place := ab2 P t, zero := iO P t, zav := Dr P t, slT := bf.sliceT P t, elem := lC P t, smap := tF P t }
def lk {α : Type} : List (Option α) → Nat → Option α
 | [], _ => none
 | x :: _, 0 => x
 | _ :: l, n + 1 => lk l n
theorem an6 {α : Type} : ∀ (l : List (Option α)) (n : Nat), lk l n = (l[n]?).bind id := by
 intro l
 induction l with
 | nil => intro n; simp [lk]
 | cons a l ih => intro n; cases n with
  | zero => simp [lk]
  | succ n => simp [lk, ih]
theorem ac9 (P : Program) (s f : Nat) : lk (TI.of P s).field f = dP P s f := by
 rw [an6]
 show (aac P s)[f]?.bind id = _
 unfold aac dP
 split
 ·rename_i fs h
  simp only [List.getElem?_map, Array.getElem?_toList, h]
  cases fs[f]? <;> rfl
 ·rename_i hn
  cases hu : P.underlying s with
  | none => rfl
  | some d => cases d <;> first | rfl | exact (hn _ hu).elim
theorem alO (P : Program) (s f : Nat) : lk (TI.of P s).place f = eT P s f := by
 rw [an6]
 show (ab2 P s)[f]?.bind id = _
 unfold ab2 eT
 split
 ·rename_i fs h
  simp only [List.getElem?_map, Array.getElem?_toList, h]
  cases fs[f]? <;> rfl
 ·rename_i hn
  cases hu : P.underlying s with
  | none => rfl
  | some d => cases d <;> first | rfl | exact (hn _ hu).elim
def aqy (n : Nat) (cs : List AV) : Option AV := if cs.length = n then some (.agg cs) else if n ≤ cs.length then some (.agg (cs.take n)) else none
def loadT (τ : Nat → TI) (t : TypeId) (cs : List AV) : Option AV :=
 match (τ t).agg with
 | some true => match (τ t).size with
  | some n => aqy n cs
  | none => none
 | some false => match cs with | [] => none | c :: _ => some c
 | none => none
theorem Vm (P : Program) (t : TypeId) (cs : List AV) : loadT (TI.of P) t cs = lN P t cs := rfl
def PY (τ : Nat → TI) (op : BinOp) (t : TypeId) : AV → AV → Option AV
 | .int k a, .int k' b => if k = k' then (match op with
  | .add => some (.int k (k.wrap (a + b)))
  | .sub => some (.int k (k.wrap (a - b)))
  | .mul => some (.int k (k.wrap (a * b)))
  | .quo => if b = 0 then none else some (.int k (k.wrap (a.tdiv b)))
  | .rem => if b = 0 then none else some (.int k (a.tmod b))
  | .eql => some (.bool (a == b))
  | .neq => some (.bool (a != b))
  | .lss => some (.bool (decide (a < b)))
  | .leq => some (.bool (decide (a ≤ b)))
  | .gtr => some (.bool (decide (b < a)))
  | .geq => some (.bool (decide (b ≤ a)))
  | _ => none) else none
 | .str a, .str b => match op with
  | .add => if a.length + b.length ≤ 9223372036854775807 then some (.str (a ++ b)) else none
  | .eql => some (.bool (a == b))
  | .neq => some (.bool (!(a == b)))
  | .lss => some (.bool (Op.bytesLess a b))
  | .leq => some (.bool (Op.bytesLess a b || a == b))
  | .gtr => some (.bool (!(Op.bytesLess a b || a == b)))
  | .geq => some (.bool (!(Op.bytesLess a b)))
  | _ => none
 | .bool a, .bool b => if (τ t).isBool then (match op with
  | .eql => some (.bool (a == b))
  | .neq => some (.bool (!(a == b)))
  | _ => none) else none
 | x, .nilp => if (τ t).isPtr then (match op, LH x with
  | .eql, some b => some (.bool b)
  | .neq, some b => some (.bool (!b))
  | _, _ => none) else none
 | _, _ => none
end Abs
end Go.Proofs.YtiiaccpcoclklaaGreat
namespace Go.Proofs.YtiiaccpcoclklaaGreat
namespace Abs
open Go
def iE : Bool → Prop → Prop → Prop
 | true, A, _ => A
 | false, _, B => B
def gW {α : Type} : Option α → (α → Prop) → Prop
 | some x, K => K x
 | none, _ => False
theorem dH {b : Bool} {A B : Prop} (h : iE b A B) : (b = true ∧ A) ∨ (b = false ∧ B) := by cases b <;> simp_all [iE]
theorem dV {α : Type} {r : Option α} {K : α → Prop} (h : gW r K) : ∃ x, r = some x ∧ K x := by cases r with | none => exact h.elim | some x => exact ⟨x, rfl, h⟩
def asJ (es : List (List AV)) (n : Int) (sz : Nat) (K : AV → Prop) : Prop := ∃ cs, es[n.toNat]? = some cs ∧ 0 ≤ n ∧ cs.length = sz ∧ K (.eptr cs)
def apv (s : List UInt8) (n : Int) (K : AV → Prop) : Prop := (0 ≤ n ∧ n < s.length) ∧ K (.int .u8 (s.getD n.toNat 0).toNat)
def asD (a b : List UInt8) (K : AV → Prop) : Prop := a.length + b.length ≤ 9223372036854775807 ∧ K (.str (a ++ b))
def asW (s : List UInt8) (lo hi : Option AV) (K : AV → Prop) : Prop := ∃ l h, fU hi s.length s.length = some h ∧ fU lo 0 h = some l ∧ K (.str ((s.drop l).take (h - l)))
def ath (es : List (List AV)) (sz : Nat) (lo hi : Option AV) (K : AV → Prop) : Prop := ∃ l h, fU hi es.length es.length = some h ∧ fU lo 0 h = some l ∧ (l < es.length → (es.getD l []).length = sz) ∧ K (.slice ((es.drop l).take (h - l)) .shared)
def aq9 (n : Int) (len : Nat) (K : Prop) : Prop := (0 ≤ n ∧ n < len) ∧ K
def ank (ys : List (List AV)) (sz bytes : Nat) (K : Prop) : Prop := (ys.length * bytes ≤ 140737488355328 ∧ ys.length ≤ 140737488355328 ∧ (ys.all (eu sz) = true)) ∧ K
def amo (n : Nat) (es ys : List (List AV)) (sz bytes : Nat) (K : Prop) : Prop := (n = es.length * sz ∧ (es.length + ys.length) * bytes ≤ 140737488355328 ∧ es.length + ys.length ≤ 140737488355328 ∧ (es.all (eu sz) = true) ∧ (ys.all (eu sz) = true)) ∧ K
def as1 (es : List (List UInt8 × AV)) (K : Prop) : Prop := es.length < 140737488355328 ∧ K
def arT (es : List (List UInt8 × AV)) (s : List UInt8) (A : AV → Prop) (B : Prop) : Prop := (∀ v, sG es s = some v → A v) ∧ (sG es s = none → B)
def afw (K : AV → Prop) : IxT → AV → AV → Prop
 | .sl (some sz), .slice es _, .int _ n => asJ es n sz K
 | .arr len (some sz), .ptr l o, .int _ n => aq9 n len (K (.ptr l (o + n.toNat * sz)))
 | .arr len (some sz), .eptr cs, .int _ n => aq9 n len (K (.eptr (cs.drop (n.toNat * sz))))
 | _, _, _ => False
def cutV (isStr : Bool) (slT : Option Nat) (lo hi : Option AV) (K : AV → Prop) : AV → Prop
 | .str s => iE isStr (asW s lo hi K) False
 | .slice es _ => gW slT fun sz => ath es sz lo hi K
 | _ => False
def Ku (τ : Nat → TI) (op : BinOp) (t : TypeId) (x y : AV) (K : AV → Prop) : Prop :=
 match op, x, y with
 | .add, .str a, .str b => asD a b K
 | op, x, y => gW (PY τ op t x y) K
def ajU (σ : Nat → AObj) (k sz bytes : Nat) (d : Option Tmp) (K : List Nat → List Wr → Prop) : AV → AV → Prop
 | .slice [] .nils, .slice ys _ => iE (eF (σ k)) (ank ys sz bytes (K [k] (.obj k (.tip (ys.length * sz)) :: aY d (.slice ys (.tip k sz))))) False
 | .slice es (.tip l z), .slice ys _ => match σ l with
  | .tip n => iE (eF (σ k) && z == sz) (amo n es ys sz bytes (K [l, k] (.obj l .dead :: .obj k (.tip ((es ++ ys).length * sz)) :: aY d (.slice (es ++ ys) (.tip k sz))))) False
  | _ => False
 | _, _ => False
def stepT (τ : Nat → TI) (k : Nat) (d : Option Tmp) (ρ : Operand → AV) (σ : Nat → AObj) (K : List Nat → List Wr → Prop) : Op → Prop
 | .move x => K [] (aY d (ρ x))
 | .assign x => K [] (aY d (ρ x))
 | .pick c x y => match ρ c with
  | .bool b => iE b (K [] (aY d (ρ x))) (K [] (aY d (ρ y)))
  | _ => False
 | .nilCheck x => gW (ajv (ρ x)) fun v => K [] (aY d v)
 | .binOp op t x y _ => Ku τ op t (ρ x) (ρ y) fun v => K [] (aY d v)
 | .unOp op _ x => gW (unK op (ρ x)) fun v => K [] (aY d v)
 | .fieldAddr s x f => gW (MV (lk (τ s).field f) (ρ x)) fun v => K [] (aY d v)
 | .field s x f => gW (lk (τ s).field f) fun p => match ρ x with
  | .agg cs => gW (loadT τ p.2 (cs.drop p.1)) fun v => K [] (aY d v)
  | _ => False
 | .indexAddr t x i => afw (fun v => K [] (aY d v)) (τ t).ix (ρ x) (ρ i)
 | .index t x i => match ρ x, ρ i with
  | .str s, .int _ n => iE (τ t).isStr (apv s n fun v => K [] (aY d v)) False
  | _, _ => False
 | .extract x i => match ρ x with
  | .bq vs => gW (vs[i]?) fun v => K [] (aY d v)
  | _ => False
 | .slice t x lo hi none => cutV (τ t).isStr (τ t).slT (lo.map ρ) (hi.map ρ) (fun v => K [] (aY d v)) (ρ x)
 | .build t parts => iE (τ t).isStruct (gW (τ t).zero fun z => gW (lV (lk (τ t).place) z (parts.toList.map fun p => (p.1, ρ p.2))) fun cs => K [] (aY d (.agg cs))) False
 | .makeFunc (.func f) first captured => iE (first.toList.isEmpty) (K [] (aY d (.func f (captured.toList.map ρ)))) False
 | .load t x => match ρ x with
  | .eptr cs => gW (loadT τ t cs) fun v => K [] (aY d v)
  | .ptr l off => match σ l with
   | .box cs => gW (loadT τ t (cs.drop off)) fun v => K [l] (aY d v)
   | _ => False
  | _ => False
 | .store t x y => match ρ x with
  | .ptr l off => gW (lW (ρ y)) fun vs => match σ l with
   | .box cs => iE (decide ((τ t).size = some vs.length ∧ off + vs.length ≤ cs.length) && vs.all isScalar) (K [l] (.obj l (.box (cs.take off ++ vs ++ cs.drop (off + vs.length))) :: aY d (.bq []))) False
   | _ => False
  | _ => False
 | .alloc t => iE (eF (σ k)) (gW (τ t).zero fun z => K [k] (.obj k (.box z) :: aY d (.ptr k 0))) False
 | .box _ x => iE (eF (σ k)) (gW (lW (ρ x)) fun cs => K [k] (.obj k (.box cs) :: aY d (.ptr k 0))) False
 | .makeMap _ none => iE (eF (σ k)) (K [k] (.obj k (.mp []) :: aY d (.mapr k))) False
 | .buildSlice t len parts => gW (τ t).elem fun e => gW (τ e.1).zero fun z => iE (eF (σ k) && (decide (len * e.2.1 ≤ 16777216) && (decide (len ≤ 16777216) && decide (z.length = e.2.1)))) (gW (lV (fun i => some (i * e.2.1, e.2.1)) ((List.replicate len z).flatten) (parts.toList.map fun p => (p.1, ρ p.2))) fun cs => K [k] (.obj k (.tip (len * e.2.1)) :: aY d (.slice (chunks e.2.1 len (cs.map shr)) (.tip k e.2.1)))) False
 | .convert s t x => match ρ x with
  | .int _ n => iE (τ s).int.isSome (gW (τ t).int fun k => K [] (aY d (.int k (k.wrap n)))) False
  | _ => False
 | .call { callee := .builtin .len, args, argTypes } => match args.toList, argTypes.toList with
  | [x], [t] => gW (aiW (τ t).isStr (τ t).slT (ρ x)) fun v => K [] (aY d v)
  | _, _ => False
 | .call { callee := .builtin .append, args, argTypes } => match args.toList, argTypes.toList with
  | [x, y], [t, t2] => gW (τ t).elem fun e => iE (τ t2).isSl (ajU σ k e.2.1 e.2.2 d K (ρ x) (ρ y)) False
  | _, _ => False
 | .call { callee := .builtin .max, args, argTypes := _ } => match args.toList with
  | [x, y] => match ρ x, ρ y with
   | .int k a, .int k' b => iE (decide (k = k')) (K [] (aY d (.int k (if b > a then b else a)))) False
   | _, _ => False
  | _ => False
 | .lookup t m key ok => gW (τ t).smap fun e => match ρ m, ρ key with
  | .mapr l, .str s => match σ l with
   | .mp es => gW (τ e).zav fun z => arT es s (fun v => K [l] (aY d (Lg (some v) ok z))) (K [l] (aY d (Lg none ok z)))
   | _ => False
  | _, _ => False
 | .mapUpdate t m key x => gW (τ t).smap fun _ => match ρ m, ρ key with
  | .mapr l, .str s => match σ l with
   | .mp es => as1 es (K [l] (.obj l (.mp (DK es s (wV (ρ x)))) :: aY d (.bq [])))
   | _ => False
  | _, _ => False
 | _ => False
end Abs
end Go.Proofs.YtiiaccpcoclklaaGreat
namespace Go.Proofs.YtiiaccpcoclklaaGreat
namespace Abs
open Go
theorem iF {P : Program} {k : Nat} {o : Oper} {ρ : Operand → AV} {σ : Nat → AObj} {v : AV} {K : List Nat → List Wr → Prop} (h : bf P o.op ρ = some v) (hK : K [] (aY o.dst v)) : ∃ rd ws, bO P k o ρ σ = some (rd, ws) ∧ K rd ws :=
 ⟨[], aY o.dst v, by unfold bO; rw [h], hK⟩
theorem ajG {P : Program} {op : BinOp} {t : TypeId} {x y : AV} {K : AV → Prop} (h : Ku (TI.of P) op t x y K) : ∃ v, Ki P op t x y = some v ∧ K v := by
 unfold Ku at h
 split at h
 ·obtain ⟨h1, h2⟩ := h
  exact ⟨_, by simp [Ki, h1], h2⟩
 ·obtain ⟨v, h1, h2⟩ := dV h
  exact ⟨v, h1, h2⟩
theorem akw {P : Program} {t : TypeId} {x i : Operand} {ρ : Operand → AV} {K : AV → Prop} (h : afw K (TI.of P t).ix (ρ x) (ρ i)) : ∃ v, bf P (.indexAddr t x i) ρ = some v ∧ K v := by
 have hix : (TI.of P t).ix = V9 P t := rfl
 rw [hix] at h
 simp only [bf]
 unfold V9 at h
 unfold afw at h
 split at h
 ·rename_i sz es tag k n h1 h2 h3
  split at h1
  ·rename_i e hu
   simp only [IxT.sl.injEq] at h1
   obtain ⟨cs, g1, g2, g3, g4⟩ := h
   have hlt := (List.getElem?_eq_some_iff.1 g1).1
   have hd : es.getD n.toNat [] = cs := by simp [List.getD, g1]
   refine ⟨.eptr cs, ?_, g4⟩
   simp_all
  ·cases h1
  ·cases h1
 ·rename_i len sz l o k n h1 h2 h3
  split at h1
  ·cases h1
  ·rename_i n' e hu
   simp only [IxT.arr.injEq] at h1
   obtain ⟨g1, g2⟩ := h
   exact ⟨_, by simp_all, g2⟩
  ·cases h1
 ·rename_i len sz cs k n h1 h2 h3
  split at h1
  ·cases h1
  ·rename_i n' e hu
   simp only [IxT.arr.injEq] at h1
   obtain ⟨g1, g2⟩ := h
   exact ⟨_, by simp_all, g2⟩
  ·cases h1
 ·exact h.elim
theorem alT {P : Program} {t : TypeId} {x : Operand} {lo hi : Option Operand} {ρ : Operand → AV} {K : AV → Prop} (h : cutV (TI.of P t).isStr (TI.of P t).slT (lo.map ρ) (hi.map ρ) K (ρ x)) : ∃ v, bf P (.slice t x lo hi none) ρ = some v ∧ K v := by
 have h1 : (TI.of P t).isStr = bf.isStrT P t := rfl
 have h2 : (TI.of P t).slT = bf.sliceT P t := rfl
 rw [h1, h2] at h
 simp only [bf]
 unfold cutV at h
 split at h
 ·rename_i s hx
  rcases dH h with ⟨g1, l, hh, g2, g3, g4⟩ | ⟨_, g⟩
  ·exact ⟨_, by simp [hx, g1, g2, g3], g4⟩
  ·exact g.elim
 ·rename_i es tag hx
  obtain ⟨sz, g1, l, hh, g2, g3, g4, g5⟩ := dV h
  exact ⟨_, by simp only [hx, g1, g2, g3]; rw [if_pos g4], g5⟩
 ·exact h.elim
theorem UF {P : Program} {k : Nat} {o : Oper} {ρ : Operand → AV} {σ : Nat → AObj} {K : List Nat → List Wr → Prop} (h : stepT (TI.of P) k o.dst ρ σ K o.op) : ∃ rd ws, bO P k o ρ σ = some (rd, ws) ∧ K rd ws := by
 obtain ⟨d, op, ty, ps, af, gd⟩ := o
 simp only at h
 unfold stepT at h
 split at h
 ·exact iF (o := ⟨d, _, ty, ps, af, gd⟩) rfl h
 ·exact iF (o := ⟨d, _, ty, ps, af, gd⟩) rfl h
 ·rename_i c x y
  split at h
  ·rename_i b hb
   rcases dH h with ⟨rfl, g⟩ | ⟨rfl, g⟩
   ·exact iF (o := ⟨d, _, ty, ps, af, gd⟩) (by simp [bf, hb]) g
   ·exact iF (o := ⟨d, _, ty, ps, af, gd⟩) (by simp [bf, hb]) g
  ·exact h.elim
 ·obtain ⟨v, g1, g2⟩ := dV h
  exact iF (o := ⟨d, _, ty, ps, af, gd⟩) g1 g2
 ·obtain ⟨v, g1, g2⟩ := ajG h
  exact iF (o := ⟨d, _, ty, ps, af, gd⟩) g1 g2
 ·obtain ⟨v, g1, g2⟩ := dV h
  exact iF (o := ⟨d, _, ty, ps, af, gd⟩) g1 g2
 ·rw [ac9] at h
  obtain ⟨v, g1, g2⟩ := dV h
  exact iF (o := ⟨d, _, ty, ps, af, gd⟩) g1 g2
 ·rw [ac9] at h
  obtain ⟨p, g1, g2⟩ := dV h
  split at g2
  ·rename_i cs hx
   obtain ⟨v, g3, g4⟩ := dV g2
   exact iF (o := ⟨d, _, ty, ps, af, gd⟩) (by simp only [bf, g1, hx]; exact g3) g4
  ·exact g2.elim
 ·obtain ⟨v, g1, g2⟩ := akw h
  exact iF (o := ⟨d, _, ty, ps, af, gd⟩) g1 g2
 ·split at h
  ·rename_i s kk n hx hi
   rcases dH h with ⟨g1, g2, g3⟩ | ⟨_, g⟩
   ·have g1 : bf.isStrT P _ = true := g1
    exact iF (o := ⟨d, _, ty, ps, af, gd⟩) (by simp only [bf, hx, hi]; rw [if_pos ⟨g1, g2⟩]) g3
   ·exact g.elim
  ·exact h.elim
 ·split at h
  ·rename_i vs hx
   obtain ⟨v, g1, g2⟩ := dV h
   have hlt := (List.getElem?_eq_some_iff.1 g1).1
   exact iF (o := ⟨d, _, ty, ps, af, gd⟩) (v := v) (by simp only [bf, hx]; rw [if_pos hlt]; simp [List.getD, g1]) g2
  ·exact h.elim
 ·obtain ⟨v, g1, g2⟩ := alT h
  exact iF (o := ⟨d, _, ty, ps, af, gd⟩) g1 g2
 ·rename_i t parts
  rcases dH h with ⟨g1, g2⟩ | ⟨_, g⟩
  ·obtain ⟨z, g3, g4⟩ := dV g2
   obtain ⟨cs, g5, g6⟩ := dV g4
   have g1 : jO P t = true := g1
   have g3 : iO P t = some z := g3
   have : lk (TI.of P t).place = eT P t := funext fun i => alO P t i
   rw [this] at g5
   exact iF (o := ⟨d, _, ty, ps, af, gd⟩) (by simp only [bf, g1, if_true, g3, g5, Option.map_some]) g6
  ·exact g.elim
 ·rename_i f first captured
  rcases dH h with ⟨g1, g2⟩ | ⟨_, g⟩
  ·have : first.size = 0 := by
    have := List.isEmpty_iff.1 g1
    simpa using this
   exact iF (o := ⟨d, _, ty, ps, af, gd⟩) (by simp only [bf]; rw [if_pos this]) g2
  ·exact g.elim
 ·rename_i t x
  split at h
  ·rename_i cs hx
   obtain ⟨v, g1, g2⟩ := dV h
   exact iF (o := ⟨d, _, ty, ps, af, gd⟩) (by simp only [bf, hx]; exact g1) g2
  ·rename_i l off hx
   split at h
   ·rename_i cs hl
    obtain ⟨v, g1, g2⟩ := dV h
    rw [Vm] at g1
    exact ⟨_, _, by rw [abI]; simp only [XU, hx, hl, g1]; rfl, g2⟩
   ·exact h.elim
  ·exact h.elim
 ·rename_i t x y
  split at h
  ·rename_i l off hx
   obtain ⟨vs, g1, g2⟩ := dV h
   split at g2
   ·rename_i cs hl
    rcases dH g2 with ⟨g3, g4⟩ | ⟨_, g⟩
    ·simp only [Bool.and_eq_true, decide_eq_true_eq] at g3
     have g3' : sizeT P t = some vs.length := g3.1.1
     refine ⟨_, _, ?_, g4⟩
     rw [UR]
     simp only [Xf, hx, g1, hl]
     rw [if_pos ⟨g3', g3.1.2, g3.2⟩]
    ·exact g.elim
   ·exact g2.elim
  ·exact h.elim
 ·rcases dH h with ⟨g1, g2⟩ | ⟨_, g⟩
  ·obtain ⟨z, g3, g4⟩ := dV g2
   have g3 : iO P _ = some z := g3
   exact ⟨_, _, by rw [afg, g1, if_pos rfl, g3]; rfl, g4⟩
  ·exact g.elim
 ·rcases dH h with ⟨g1, g2⟩ | ⟨_, g⟩
  ·obtain ⟨z, g3, g4⟩ := dV g2
   exact ⟨_, _, by rw [alI, g1, if_pos rfl, g3]; rfl, g4⟩
  ·exact g.elim
 ·rcases dH h with ⟨g1, g2⟩ | ⟨_, g⟩
  ·exact ⟨_, _, by rw [ZL, g1, if_pos rfl], g2⟩
  ·exact g.elim
 ·rename_i t len parts
  obtain ⟨⟨e, sz, by'⟩, g1, g2⟩ := dV h
  obtain ⟨z, g3, g4⟩ := dV g2
  rcases dH g4 with ⟨g5, g6⟩ | ⟨_, g⟩
  ·obtain ⟨cs, g7, g8⟩ := dV g6
   have g1 : lC P t = some (e, sz, by') := g1
   have g3 : iO P e = some z := g3
   simp only [Bool.and_eq_true, decide_eq_true_eq] at g5
   refine ⟨_, _, ?_, g8⟩
   simp only [bO, bf, g1, g3]
   rw [if_pos ⟨g5.1, g5.2.1, g5.2.2.1, g5.2.2.2⟩]
   simp only at g7
   rw [g7]; rfl
  ·exact g.elim
 ·rename_i s t x
  split at h
  ·rename_i kk n hx
   rcases dH h with ⟨g1, g2⟩ | ⟨_, g⟩
   ·obtain ⟨kt, g3, g4⟩ := dV g2
    have g1 : (intTy P s).isSome = true := g1
    have g3 : intTy P t = some kt := g3
    refine iF (o := ⟨d, _, ty, ps, af, gd⟩) (v := .int kt (kt.wrap n)) ?_ g4
    have hc : bf.convT P s t = some kt := by
     unfold intTy at g1 g3
     unfold bf.convT
     split at g1
     ·rename_i hs
      split at g3
      ·rename_i ht; cases g3; simp [hs, ht]
      ·cases g3
     ·cases g1
    simp only [bf, hx, hc]
   ·exact g.elim
  ·exact h.elim
 ·rename_i args argTypes
  split at h
  ·rename_i x t ha ht
   obtain ⟨v, g1, g2⟩ := dV h
   exact iF (o := ⟨d, _, ty, ps, af, gd⟩) (by simp only [bf, ha, ht]; exact g1) g2
  ·exact h.elim
 ·rename_i args argTypes
  split at h
  ·rename_i x y t t2 ha ht
   obtain ⟨⟨e, sz, by'⟩, g1, g2⟩ := dV h
   rcases dH g2 with ⟨g3, g4⟩ | ⟨_, g⟩
   ·have g1 : lC P t = some (e, sz, by') := g1
    have g3 : bO.isSliceT P t2 = true := g3
    simp only at g4
    unfold ajU at g4
    split at g4
    ·rename_i ys tg hx hy
     rcases dH g4 with ⟨g5, g6, g7⟩ | ⟨_, g⟩
     ·refine ⟨_, _, ?_, g7⟩
      simp only [bO, bf, ha, ht, g1, g3, hx, hy]
      rw [if_pos ⟨g5, trivial, g6⟩]
     ·exact g.elim
    ·rename_i es l z ys tg hx hy
     split at g4
     ·rename_i n hl
      rcases dH g4 with ⟨g5, g6, g7⟩ | ⟨_, g⟩
      ·simp only [Bool.and_eq_true, beq_iff_eq] at g5
       refine ⟨_, _, ?_, g7⟩
       simp only [bO, bf, ha, ht, g1, g3, hx, hy, hl]
       rw [if_pos ⟨g5.1, g6.1, g5.2, g6.2⟩]
      ·exact g.elim
     ·exact g4.elim
    ·exact g4.elim
   ·exact g.elim
  ·exact h.elim
 ·rename_i args argTypes
  split at h
  ·rename_i x y ha
   split at h
   ·rename_i k1 a k2 b hx hy
    rcases dH h with ⟨g1, g2⟩ | ⟨_, g⟩
    ·simp only [decide_eq_true_eq] at g1
     exact iF (o := ⟨d, _, ty, ps, af, gd⟩) (by simp only [bf, ha, hx, hy]; rw [if_pos g1]) g2
    ·exact g.elim
   ·exact h.elim
  ·exact h.elim
 ·rename_i t m key ok
  obtain ⟨e, g1, g2⟩ := dV h
  split at g2
  ·rename_i l s hm hk
   split at g2
   ·rename_i es hl
    obtain ⟨z, g3, g4, g5⟩ := dV g2
    have g1 : tF P t = some e := g1
    have g3 : Dr P e = some z := g3
    cases hf : sG es s with
    | some v => exact ⟨_, _, by simp only [bO, bf, g1, hm, hk, hl, g3, hf], g4 v hf⟩
    | none => exact ⟨_, _, by simp only [bO, bf, g1, hm, hk, hl, g3, hf], g5 hf⟩
   ·exact g2.elim
  ·exact g2.elim
 ·rename_i t m key x
  obtain ⟨e, g1, g2⟩ := dV h
  split at g2
  ·rename_i l s hm hk
   split at g2
   ·rename_i es hl
    obtain ⟨g3, g4⟩ := g2
    have g1 : tF P t = some e := g1
    exact ⟨_, _, by simp only [bO, bf, g1, hm, hk, hl]; rw [if_pos g3], g4⟩
   ·exact g2.elim
  ·exact g2.elim
 ·exact h.elim
end Abs
end Go.Proofs.YtiiaccpcoclklaaGreat
namespace Go.Proofs.YtiiaccpcoclklaaGreat
namespace Abs
open Go
def fL {α : Type} : List α → (List α → Prop) → Prop
 | [], K => K []
 | x :: xs, K => fL xs fun ys => K (x :: ys)
def VP {α : Type} : List α → Nat → (Nat → Prop) → Prop
 | [], k, K => K k
 | _ :: xs, k, K => VP xs (k + 1) K
def AU {α : Type} : List α → Nat → α → (List α → Prop) → Prop
 | [], _, _, K => K []
 | _ :: xs, 0, v, K => K (v :: xs)
 | x :: xs, n + 1, v, K => AU xs n v fun ys => K (x :: ys)
def NV : AV → (AV → Prop) → Prop
 | .agg cs, K => fL cs fun cs => K (.agg cs)
 | .eptr cs, K => fL cs fun cs => K (.eptr cs)
 | .bq cs, K => fL cs fun cs => K (.bq cs)
 | .func f cs, K => fL cs fun cs => K (.func f cs)
 | .int k n, K => K (.int k n)
 | .bool b, K => K (.bool b)
 | .str b, K => K (.str b)
 | .ptr l o, K => K (.ptr l o)
 | .nilp, K => K .nilp
 | .slice es t, K => K (.slice es t)
 | .mapr l, K => K (.mapr l)
 | .nilFunc, K => K .nilFunc
 | .psl l z n, K => K (.psl l z n)
 | .flist ns, K => K (.flist ns)
 | .unk, K => K .unk
def afW : AObj → (AObj → Prop) → Prop
 | .box cs, K => fL cs fun cs => K (.box cs)
 | .tip n, K => K (.tip n)
 | .mp es, K => K (.mp es)
 | .dead, K => K .dead
 | .arr z es, K => K (.arr z es)
 | .res, K => K .res
def xA : List Wr → List AV → List AObj → (List AV → List AObj → Prop) → Prop
 | [], t, h, K => K t h
 | .slot n v :: ws, t, h, K => NV v fun v => AU t n v fun t => xA ws t h K
 | .obj n v :: ws, t, h, K => afW v fun v => AU h n v fun h => xA ws t h K
def abR (t : List AV) : List Operand → (List AV → Prop) → Prop
 | [], K => K []
 | x :: xs, K => NV (fV t x) fun v => abR t xs fun vs => K (v :: vs)
def Pt : Nat → Prop → Prop → Prop
 | 0, A, _ => A
 | _ + 1, _, B => B
theorem Am {α : Type} : ∀ (l : List α) (K : List α → Prop), fL l K = K l := by
 intro l; induction l with
 | nil => intro K; rfl
 | cons x l ih => intro K; simp only [fL]; exact ih _
theorem ab1 {α : Type} : ∀ (l : List α) (k : Nat) (K : Nat → Prop), VP l k K = K (k + l.length) := by
 intro l; induction l with
 | nil => intro k K; rfl
 | cons x l ih => intro k K; simp only [VP]; rw [ih]; congr 1; simp; omega
theorem Ez {α : Type} : ∀ (l : List α) (n : Nat) (v : α) (K : List α → Prop), AU l n v K = K (l.set n v) := by
 intro l; induction l with
 | nil => intro n v K; rfl
 | cons x l ih => intro n v K; cases n with
  | zero => rfl
  | succ n => simp only [AU, List.set_cons_succ]; exact ih _ _ _
theorem FI (v : AV) (K : AV → Prop) : NV v K = K v := by cases v <;> simp only [NV, Am]
theorem aoE (v : AObj) (K : AObj → Prop) : afW v K = K v := by cases v <;> simp only [afW, Am]
theorem aeY : ∀ (ws : List Wr) (t : List AV) (h : List AObj) (K : List AV → List AObj → Prop), xA ws t h K = K (ASt.wr ⟨t, h⟩ ws).tmps (ASt.wr ⟨t, h⟩ ws).heap := by
 intro ws; induction ws with
 | nil => intro t h K; rfl
 | cons w ws ih => intro t h K; cases w with
  | slot n v => simp only [xA, FI, Ez]; rw [ih]; rfl
  | obj n v => simp only [xA, aoE, Ez]; rw [ih]; rfl
theorem abl (t : List AV) : ∀ (l : List Operand) (K : List AV → Prop), abR t l K = K (l.map (fV t)) := by
 intro l; induction l with
 | nil => intro K; rfl
 | cons x l ih => intro K; simp only [abR, FI, ih, List.map_cons]
def aiY (w : Bool) (d : Nat) (t : List AV) (A B : List AV → Prop) : AV → Prop
 | .bool b => iE b (AU t d (.bool true) fun t => iE w (A t) (B t)) (AU t d (.bool false) fun t => iE w (B t) (A t))
 | .bq [] => B t
 | _ => False
def grd (ops : List Oper) (t : List AV) (A B : List AV → Prop) : Option (Nat × Bool) → Prop
 | none => A t
 | some (j, w) => gW ((ops[j]?).bind (·.dst)) fun d => aiY w d t A B (t.getD d .unk)
theorem set_self {t : List AV} {d : Nat} {v : AV} (h : t.getD d .unk = v) : t.set d v = t := by
 apply List.ext_getElem?
 intro i
 rw [List.getElem?_set]
 split
 ·rename_i he; subst he
  split
  ·rename_i hl; rw [List.getD, List.getElem?_eq_getElem hl] at h; rw [List.getElem?_eq_getElem hl, ← h]; rfl
  ·rename_i hl; rw [List.getElem?_eq_none (Nat.le_of_not_lt hl)]
 ·rfl
theorem O7 {ops : List Oper} {t : List AV} {A B : List AV → Prop} {o : Oper} (h : grd ops t A B o.guard) : (jR ops.toArray t o = some true ∧ A t) ∨ (jR ops.toArray t o = some false ∧ B t) := by
 unfold jR
 cases hg : o.guard with
 | none => rw [hg] at h; exact .inl ⟨rfl, h⟩
 | some p =>
  obtain ⟨j, w⟩ := p
  rw [hg] at h
  obtain ⟨d, h1, h2⟩ := dV h
  simp only [List.getElem?_toArray, h1]
  unfold aiY at h2
  split at h2
  ·rename_i b hb
   simp only [hb]
   rcases dH h2 with ⟨rfl, g⟩ | ⟨rfl, g⟩
   ·rw [Ez, set_self hb] at g
    rcases dH g with ⟨rfl, g⟩ | ⟨rfl, g⟩
    ·exact .inl ⟨rfl, g⟩
    ·exact .inr ⟨rfl, g⟩
   ·rw [Ez, set_self hb] at g
    rcases dH g with ⟨rfl, g⟩ | ⟨rfl, g⟩
    ·exact .inr ⟨rfl, g⟩
    ·exact .inl ⟨rfl, g⟩
  ·rename_i hb
   rw [hb]
   exact .inr ⟨rfl, h2⟩
  ·exact h2.elim
def GX (P : Program) (f : Nat) (args : List AV) (dst : Option Tmp) (t : List AV) (h : List AObj) (k : Nat) (K : Nat → List Nat → List Wr → Prop) : Prop := Di P f args dst ⟨t, h⟩ k K .mk
def abX (K : Nat → List AV → Prop) : AV → Prop
 | .func f caps => K f caps
 | _ => False
def run (P : Program) (τ : Nat → TI) (ops : List Oper) : List Oper → Nat → List Eff → List AV → List AObj → (List Eff → List AV → List AObj → Prop) → Prop
 | [], _, es, t, h, K => K es.reverse t h
 | o :: l, k, es, t, h, K => grd ops t
   (fun t => match oF o.op with
    | some (f, args) => abX (fun fid caps => abR t args.toList fun vs => fL (vs ++ caps) fun vs => GX P fid vs o.dst t h k fun k' ro ws => xA ws t h fun t' h' => run P τ ops l k' (⟨fq ops.toArray o, ro, ws⟩ :: es) t' h' K) (fV t f)
    | none => stepT τ k o.dst (fV t) (obj? h) (fun rd ws => xA ws t h fun t' h' => Pt (kX o.op) (run P τ ops l k (⟨fq ops.toArray o, rd, ws⟩ :: es) t' h' K) (run P τ ops l (k + 1) (⟨fq ops.toArray o, rd, ws⟩ :: es) t' h' K)) o.op)
   (fun t => xA (aY o.dst (.bq [])) t h fun t' h' => run P τ ops l k (⟨fq ops.toArray o, [], aY o.dst (.bq [])⟩ :: es) t' h' K) o.guard
theorem ajZ {P : Program} {ops : List Oper} : ∀ (l : List Oper) (k : Nat) (es : List Eff) (t : List AV) (h : List AObj) (K : List Eff → List AV → List AObj → Prop), run P (TI.of P) ops l k es t h K → ∃ es' s', ATr P ops.toArray l es' ⟨t, h⟩ s' ∧ K (es.reverse ++ es') s'.tmps s'.heap := by
 intro l
 induction l with
 | nil => intro k es t h K hr; exact ⟨[], ⟨t, h⟩, .nil _, by simpa [run] using hr⟩
 | cons o l ih =>
  intro k es t h K hr
  have fin : ∀ (e : Eff) (k' : Nat), H8 P ops.toArray o ⟨t, h⟩ e → (xA e.ws t h fun t' h' => run P (TI.of P) ops l k' (e :: es) t' h' K) → ∃ es' s', ATr P ops.toArray (o :: l) es' ⟨t, h⟩ s' ∧ K (es.reverse ++ es') s'.tmps s'.heap := fun e k' he hw => by
   rw [aeY] at hw
   obtain ⟨es', s', g1, g2⟩ := ih k' (e :: es) _ _ K hw
   exact ⟨e :: es', s', .cons he g1, by simpa using g2⟩
  simp only [run] at hr
  rcases O7 hr with ⟨hc, h1⟩ | ⟨hc, h2⟩
  ·cases hcall : oF o.op with
   | none =>
    rw [hcall] at h1
    obtain ⟨rd, ws, g1, g2⟩ := UF h1
    have g2 : ∃ k', xA ws t h fun t' h' => run P (TI.of P) ops l k' (⟨fq ops.toArray o, rd, ws⟩ :: es) t' h' K := by
     cases hn : kX o.op with
     | zero => simp only [hn, Pt] at g2; exact ⟨_, g2⟩
     | succ m => simp only [hn, Pt] at g2; exact ⟨_, g2⟩
    obtain ⟨k', g2⟩ := g2
    exact fin ⟨fq ops.toArray o, rd, ws⟩ k' (II (s := ⟨t, h⟩) hc g1) g2
   | some p =>
    obtain ⟨f, args⟩ := p
    rw [hcall] at h1
    simp only at h1
    unfold abX at h1
    split at h1
    ·rename_i fid caps g1
     simp only [abl, Am, GX] at h1
     obtain ⟨hok, ρ, ks, aargs, H, res, H', g2, g3, g4, g5, g6⟩ := h1
     obtain ⟨tt, ho⟩ := Bz hcall
     exact fin _ _ (Ht (s := ⟨t, h⟩) hc ho g1 hok g2 g3 g4 g5) g6
    ·exact h1.elim
  ·exact fin _ k (Iw (s := ⟨t, h⟩) hc) h2
def afh : List Oper → (List AObj → Prop) → Prop
 | [], K => K []
 | o :: l, K => Pt (kX o.op) (afh l K) (afh l fun r => K (.res :: r))
theorem ajE (op : Op) : kX op = 0 ∨ kX op = 1 := by
 unfold kX; split <;> simp
theorem aoB : ∀ (l : List Oper) (K : List AObj → Prop), afh l K → ∃ n, K (List.replicate n .res) := by
 intro l
 induction l with
 | nil => intro K h; exact ⟨0, h⟩
 | cons o l ih =>
  intro K h
  simp only [afh] at h
  rcases ajE o.op with e | e
  ·rw [e] at h; exact ih K h
  ·rw [e] at h
   obtain ⟨n, hn⟩ := ih _ h
   exact ⟨n + 1, hn⟩
def Pz (next : List AV → List AObj → Prop) (Q : Exit → List AV → List AObj → Prop) : Exit → List AV → List AObj → Prop
 | .normal, t, h => next t h
 | e, t, h => Q e t h
def anG (id : Nat) (Q : Exit → List AV → List AObj → Prop) : Exit → List AV → List AObj → Prop
 | .exit id', t, h => iE (id' == id) (Q .normal t h) (Q (.exit id') t h)
 | e, t, h => Q e t h
def onS (Q : Exit → List AV → List AObj → Prop) : Exit → ASt → Prop := fun e s => Q e s.tmps s.heap
def ajk (P : Program) (c : Code) (t : List AV) (h : List AObj) (Q : Exit → List AV → List AObj → Prop) : Prop := fE P (.loop c) (onS Q) ⟨t, h⟩
def ars (d : Nat) (t : List AV) (A B : List AV → Prop) : AV → Prop
 | .bool b => iE b (AU t d (.bool true) A) (AU t d (.bool false) B)
 | _ => False
def aqz (t : List AV) (A B : List AV → Prop) : Operand → Prop
 | .tmp d => ars d t A B (t.getD d .unk)
 | .const (.bool b) => iE b (A t) (B t)
 | _ => False
def zn (P : Program) (τ : Nat → TI) : Code → List AV → List AObj → (Exit → List AV → List AObj → Prop) → Prop
 | .skip, t, h, Q => Q .normal t h
 | .ret, t, h, Q => Q .ret t h
 | .exit id, t, h, Q => Q (.exit id) t h
 | .seq a b, t, h, Q => zn P τ a t h (Pz (fun t h => zn P τ b t h Q) Q)
 | .cond c a b, t, h, Q => aqz t (fun t => zn P τ a t h Q) (fun t => zn P τ b t h Q) c
 | .block id a, t, h, Q => zn P τ a t h (anG id Q)
 | .loop c, t, h, Q => ajk P c t h Q
 | .region _ l dr, t, h, Q => afh l.toList fun r => fL (h ++ r) fun h' => VP h 0 fun k => run P τ l.toList l.toList k [] t h' fun es t h => iE dr (yQ l.toList es = true ∧ Q .normal t h) (Q .normal t h)
 | _, _, _, _ => False
theorem WI {P : Program} (hm : P.follows .mixedOrders = true) : ∀ (c : Code) (t : List AV) (h : List AObj) (Q : Exit → List AV → List AObj → Prop), zn P (TI.of P) c t h Q → fE P c (onS Q) ⟨t, h⟩ := by
 intro c
 induction c with
 | skip => intro t h Q hr; exact fE.skip hr
 | ret => intro t h Q hr; exact fE.ret hr
 | exit id => intro t h Q hr; exact fE.exit hr
 | seq a b iha ihb =>
  intro t h Q hr
  refine fE.seq ((iha _ _ _ hr).mono ?_)
  intro e s hq
  cases e <;> first | exact ihb _ _ _ hq | exact hq
 | cond c a b iha ihb =>
  intro t h Q hr
  simp only [zn] at hr
  unfold aqz at hr
  split at hr
  ·rename_i d
   unfold ars at hr
   split at hr
   ·rename_i x hx
    refine fE.cond (t := x) hx (fun e => ?_) (fun e => ?_)
    ·rcases dH hr with ⟨_, g⟩ | ⟨e2, g⟩
     ·rw [Ez, set_self (by rw [hx, e])] at g; exact iha _ _ _ g
     ·rw [e] at e2; cases e2
    ·rcases dH hr with ⟨e2, g⟩ | ⟨_, g⟩
     ·rw [e] at e2; cases e2
     ·rw [Ez, set_self (by rw [hx, e])] at g; exact ihb _ _ _ g
   ·exact hr.elim
  ·rename_i x
   refine fE.cond (t := x) rfl (fun e => ?_) (fun e => ?_)
   ·rcases dH hr with ⟨_, g⟩ | ⟨e2, g⟩
    ·exact iha _ _ _ g
    ·rw [e] at e2; cases e2
   ·rcases dH hr with ⟨e2, g⟩ | ⟨_, g⟩
    ·rw [e] at e2; cases e2
    ·exact ihb _ _ _ g
  ·exact hr.elim
 | block id a iha =>
  intro t h Q hr
  refine fE.block ((iha _ _ _ hr).mono ?_)
  intro e s hq
  cases e with
  | exit id' =>
   rcases dH hq with ⟨e, g⟩ | ⟨e, g⟩
   ·simp only [zG]; rw [if_pos (by simpa using e)]; exact g
   ·simp only [zG]; rw [if_neg (by simpa using e)]; exact g
  | _ => exact hq
 | loop c _ => intro t h Q hr; exact hr
 | region id l dr =>
  intro t h Q hr
  simp only [zn] at hr
  obtain ⟨n, hr⟩ := aoB _ _ hr
  simp only [Am, ab1] at hr
  obtain ⟨es, s', h1, h2⟩ := ajZ _ _ _ _ _ _ hr
  simp only [List.reverse_nil, List.nil_append] at h2
  have hl : l = l.toList.toArray := by simp
  rw [hl]
  rcases dH h2 with ⟨rfl, g1, g2⟩ | ⟨rfl, g⟩
  ·exact fE.drawn (s := ⟨t, h⟩) n hm h1 g1 g2
  ·exact fE.region (s := ⟨t, h⟩) n h1.steps g
 | _ => intro t h Q hr; exact hr.elim
end Abs
end Go.Proofs.YtiiaccpcoclklaaGreat
namespace Go.Proofs.YtiiaccpcoclklaaGreat
namespace Abs
open Go
inductive Tr where
 | nil
 | node (l : Tr) (key : Nat) (x : TI) (r : Tr)
def Tr.look (d : Nat → TI) (t : Nat) : Tr → TI
 | .nil => d t
 | .node l k x r => match Nat.ble t k with
  | true => match Nat.beq t k with
   | true => x
   | false => Tr.look d t l
  | false => Tr.look d t r
def Tr.keys : Tr → List Nat
 | .nil => []
 | .node l k _ r => l.keys ++ k :: r.keys
def Tr.vals : Tr → List TI
 | .nil => []
 | .node l _ x r => l.vals ++ x :: r.vals
theorem Tr.len : ∀ T : Tr, T.keys.length = T.vals.length
 | .nil => rfl
 | .node l k x r => by simp [keys, vals, Tr.len l, Tr.len r]
theorem Tr.look_eq (d : Nat → TI) (t : Nat) : ∀ T : Tr, T.keys.map d = T.vals → T.look d t = d t
 | .nil, _ => rfl
 | .node l k x r, h => by
  simp only [keys, vals, List.map_append, List.map_cons] at h
  have h1 := List.append_inj h (by simp [Tr.len l])
  obtain ⟨h1, h2⟩ := h1
  simp only [List.cons.injEq] at h2
  unfold Tr.look
  split
  ·split
   ·rename_i hb
    have : t = k := Nat.eq_of_beq_eq_true hb
    rw [this]; exact h2.1.symm
   ·exact Tr.look_eq d t l h1
  ·exact Tr.look_eq d t r h2.2
theorem aqZ {P : Program} {T : Tr} (h : T.keys.map (TI.of P) = T.vals) : (fun t => T.look (TI.of P) t) = TI.of P := funext fun t => Tr.look_eq _ t T h
def resT (τ : Nat → TI) (t : List AV) (h : List AObj) : List ResultVar → (List AV → Prop) → Prop
 | [], K => K []
 | .tmp n :: r, K => NV (t.getD n .unk) fun v => resT τ t h r fun vs => K (v :: vs)
 | .cell a ty :: r, K => match t.getD a .unk with
  | .ptr l off => match obj? h l with
   | .box cs => gW (loadT τ ty (cs.drop off)) fun v => NV v fun v => resT τ t h r fun vs => K (v :: vs)
   | _ => False
  | _ => False
theorem Gl {P : Program} {t : List AV} {h : List AObj} : ∀ (rs : List ResultVar) (K : List AV → Prop), resT (TI.of P) t h rs K → ∃ xs, AP P ⟨t, h⟩ rs = some xs ∧ K xs := by
 intro rs
 induction rs with
 | nil => intro K hr; exact ⟨[], rfl, hr⟩
 | cons r rs ih =>
  intro K hr
  cases r with
  | tmp n =>
   simp only [resT, FI] at hr
   obtain ⟨xs, h1, h2⟩ := ih _ hr
   exact ⟨_, by simp only [AP, h1]; rfl, h2⟩
  | cell a ty =>
   simp only [resT] at hr
   split at hr
   ·rename_i l off hp
    split at hr
    ·rename_i cs hb
     obtain ⟨v, h1, h2⟩ := dV hr
     rw [FI] at h2
     obtain ⟨xs, h3, h4⟩ := ih _ h2
     rw [Vm] at h1
     exact ⟨_, by simp only [AP, hp, hb, h1, h3]; rfl, h4⟩
    ·exact hr.elim
   ·exact hr.elim
def Ends (v res : AV) : Prop := v = res
def Ii (n : Nat) (args : List AV) (K : List AV → Prop) : Prop := fL (args ++ List.replicate (n - args.length) (.bq [])) K
theorem GX.pure {P : Program} {f : Nat} {args : List AV} {dst : Option Tmp} {t : List AV} {h : List AObj} {k : Nat} {K : Nat → List Nat → List Wr → Prop} {res : AV} (hc : RB P f args res) (hok : aF P f = true) (hK : K k [] (aY dst res)) : GX P f args dst t h k K := Di.pure hc hok hK
theorem ajk.intro {P : Program} {τ : Nat → TI} {c : Code} {t : List AV} {h : List AObj} {Q : Exit → List AV → List AObj → Prop} (hτ : τ = TI.of P) (hm : P.follows .mixedOrders = true) (I : Nat → List AV → List AObj → Prop) {n : Nat} (h0 : I n t h)
  (round : ∀ n t h, I n t h → zn P τ c t h (Pz (fun t' h' => ∃ m, m < n ∧ I m t' h') Q)) : ajk P c t h Q := by
 subst hτ
 refine fE.loop (fun n s => I n s.tmps s.heap) h0 fun n s hI => (WI hm _ _ _ _ (round n s.tmps s.heap hI)).mono ?_
 intro e s' hq
 cases e <;> exact hq
end Abs
end Go.Proofs.YtiiaccpcoclklaaGreat
namespace Go.Proofs.YtiiaccpcoclklaaGreat
namespace Abs
open Go
theorem W.seq {P : Program} {τ : Nat → TI} {a b : Code} {t : List AV} {h : List AObj} {Q : Exit → List AV → List AObj → Prop}
  (hs : ∀ K : List AV → List AObj → Prop, (∀ t h, zn P τ b t h Q → K t h) → zn P τ a t h (Pz K Q)) : zn P τ (.seq a b) t h Q := hs _ fun _ _ h => h
theorem W.block {P : Program} {τ : Nat → TI} {id : Nat} {a : Code} {t : List AV} {h : List AObj} {Q : Exit → List AV → List AObj → Prop}
  (hs : ∀ R : Exit → List AV → List AObj → Prop, (∀ e t h, anG id Q e t h → R e t h) → zn P τ a t h R) : zn P τ (.block id a) t h Q := hs _ fun _ _ _ h => h
end Abs
end Go.Proofs.YtiiaccpcoclklaaGreat
namespace Go.Proofs.YtiiaccpcoclklaaGreat
namespace Abs
open Go
abbrev QT := Exit → List AV → List AObj → Prop
def AW (P : Program) (m : Nat) (c : Code) (Q : QT) (t : List AV) (h : List AObj) : Prop :=
 ∀ (C : Ctx) (κ : dG) (a : Act) (w : World), C.k0.length ≤ m → Sim C κ ⟨t, h⟩ a w → c.wp P (fun e a' w' => ∃ s' κ', onS Q e s' ∧ Sim C κ' s' a' w') a w
theorem AW.of {P : Program} {m : Nat} {c : Code} {Q : QT} {t : List AV} {h : List AObj} (hw : fE P c (onS Q) ⟨t, h⟩) : AW P m c Q t h := fun C κ a w _ hs => hw C κ a w hs
theorem AW.mono {P : Program} {m : Nat} {c : Code} {Q Q' : QT} {t : List AV} {h : List AObj} (hw : AW P m c Q t h) (hq : ∀ e t h, Q e t h → Q' e t h) : AW P m c Q' t h :=
 fun C κ a w hk hs => wp_mono (hw C κ a w hk hs) fun _ _ _ ⟨s', κ', h1, h2⟩ => ⟨s', κ', hq _ _ _ h1, h2⟩
theorem AW.skip {P : Program} {m : Nat} {Q : QT} {t : List AV} {h : List AObj} (hq : Q .normal t h) : AW P m .skip Q t h := AW.of (fE.skip hq)
theorem AW.ret {P : Program} {m : Nat} {Q : QT} {t : List AV} {h : List AObj} (hq : Q .ret t h) : AW P m .ret Q t h := AW.of (fE.ret hq)
theorem AW.exit {P : Program} {m : Nat} {Q : QT} {t : List AV} {h : List AObj} {id : Nat} (hq : Q (.exit id) t h) : AW P m (.exit id) Q t h := AW.of (fE.exit hq)
theorem AW.seq {P : Program} {m : Nat} {x y : Code} {Q : QT} {t : List AV} {h : List AObj} (hw : AW P m x (Pz (AW P m y Q) Q) t h) : AW P m (.seq x y) Q t h := by
 intro C κ a w hk hs
 refine wp_seq (wp_mono (hw C κ a w hk hs) ?_)
 rintro e a' w' ⟨s', κ', h1, h2⟩
 cases e with
 | normal => exact h1 C κ' a' w' hk h2
 | exit id => exact ⟨s', κ', h1, h2⟩
 | goto l => exact ⟨s', κ', h1, h2⟩
 | ret => exact ⟨s', κ', h1, h2⟩
 | panic c => exact ⟨s', κ', h1, h2⟩
 | outgrown => exact ⟨s', κ', h1, h2⟩
theorem AW.uq {P : Program} {m : Nat} {x y : Code} {Q : QT} {t : List AV} {h : List AObj} (hw : ∀ K : List AV → List AObj → Prop, (∀ t h, AW P m y Q t h → K t h) → AW P m x (Pz K Q) t h) : AW P m (.seq x y) Q t h :=
 AW.seq (hw _ fun _ _ h => h)
theorem AW.cond {P : Program} {m : Nat} {c : Operand} {x y : Code} {Q : QT} {t : List AV} {h : List AObj} {b : Bool} (hc : fV t c = .bool b) (h1 : b = true → AW P m x Q t h) (h2 : b = false → AW P m y Q t h) : AW P m (.cond c x y) Q t h := by
 intro C κ a w hk hs
 have hr := hs.ev c
 have : fV (ASt.mk t h).tmps c = .bool b := hc
 rw [this] at hr
 exact wp_cond_split hr.Ip (fun ht => h1 ht C κ a w hk hs) (fun ht => h2 ht C κ a w hk hs)
theorem AW.block {P : Program} {m id : Nat} {c : Code} {Q : QT} {t : List AV} {h : List AObj} (hw : AW P m c (anG id Q) t h) : AW P m (.block id c) Q t h := by
 intro C κ a w hk hs
 refine wp_block (wp_mono (hw C κ a w hk hs) ?_)
 rintro e a' w' ⟨s', κ', h1, h2⟩
 cases e with
 | exit id' =>
  simp only [Exit.inBlock]
  rcases dH h1 with ⟨e, g⟩ | ⟨e, g⟩
  ·rw [if_pos (by simpa using e)]; exact ⟨s', κ', g, h2⟩
  ·rw [if_neg (by simpa using e)]; exact ⟨s', κ', g, h2⟩
 | normal => exact ⟨s', κ', h1, h2⟩
 | goto l => exact ⟨s', κ', h1, h2⟩
 | ret => exact ⟨s', κ', h1, h2⟩
 | panic c => exact ⟨s', κ', h1, h2⟩
 | outgrown => exact ⟨s', κ', h1, h2⟩
theorem AW.loop {P : Program} {m : Nat} {c : Code} {Q : QT} {t : List AV} {h : List AObj} (I : Nat → List AV → List AObj → Prop) {n : Nat} (h0 : I n t h) (round : ∀ n t h, I n t h → AW P m c (Pz (fun t' h' => ∃ k, k < n ∧ I k t' h') Q) t h) : AW P m (.loop c) Q t h := by
 intro C κ a w hk hs
 refine wp_loop_ghost (Q := fun e a' w' => ∃ s' κ', onS Q e s' ∧ Sim C κ' s' a' w') (fun n a w => ∃ s κ, I n s.tmps s.heap ∧ Sim C κ s a w) n ⟨⟨t, h⟩, κ, h0, hs⟩ ?_
 rintro n a w ⟨s, κ, hI, hs⟩
 refine wp_mono (round n s.tmps s.heap hI C κ a w hk hs) ?_
 rintro e a' w' ⟨s', κ', h1, h2⟩
 cases e with
 | normal =>
  obtain ⟨m, hm, hI'⟩ := h1
  exact ⟨m, hm, s', κ', hI', h2⟩
 | exit id => exact ⟨s', κ', h1, h2⟩
 | goto l => exact ⟨s', κ', h1, h2⟩
 | ret => exact ⟨s', κ', h1, h2⟩
 | panic c => exact ⟨s', κ', h1, h2⟩
 | outgrown => exact ⟨s', κ', h1, h2⟩
def VF : AV → Prop
 | .int k n => AA k n
 | .str s => s.length ≤ 9223372036854775807
 | .slice es _ => es.length ≤ 9223372036854775807
 | .psl _ _ n => n ≤ 140737488355328
 | _ => True
theorem Rel.vf {w : World} {κ : dG} {pv : gY} {x : AV} {v : Value} (h : Rel w κ pv x v) : VF x := by
 cases h <;> first | trivial | assumption
def parts : AV → List AV
 | .agg cs => cs
 | .bq cs => cs
 | .eptr cs => cs
 | .func _ cs => cs
 | v => [v]
theorem Rel.parts {w : World} {κ : dG} {pv : gY} {x : AV} {v : Value} (h : Rel w κ pv x v) (j : Nat) : VF ((Abs.parts x).getD j .unk) := by
 have key : ∀ cs : List AV, (∀ i, i < cs.length → VF (cs.getD i .unk)) → VF (cs.getD j .unk) := fun cs hc => by
  by_cases hj : j < cs.length
  ·exact hc j hj
  ·rw [List.getD, List.getElem?_eq_none (Nat.le_of_not_lt hj)]; trivial
 cases h with
 | agg h1 h2 => exact key _ fun i hi => (h2 i hi).vf
 | bq h1 h2 => exact key _ fun i hi => (h2 i hi).vf
 | func h1 h2 => exact key _ fun i hi => (h2 i hi).vf
 | eptr u h1 h2 h3 => exact key _ fun i hi => (h3 i hi).vf
 | unk v => exact key [.unk] fun i hi => by simp at hi; subst hi; trivial
 | int g => exact key [_] fun i hi => by simp at hi; subst hi; exact g
 | bool b => exact key [_] fun i hi => by simp at hi; subst hi; trivial
 | str g => exact key [_] fun i hi => by simp at hi; subst hi; exact g
 | nilp => exact key [_] fun i hi => by simp at hi; subst hi; trivial
 | ptr _ => exact key [_] fun i hi => by simp at hi; subst hi; trivial
 | mapr _ => exact key [_] fun i hi => by simp at hi; subst hi; trivial
 | nilFunc => exact key [_] fun i hi => by simp at hi; subst hi; trivial
 | psl _ g _ => exact key [_] fun i hi => by simp at hi; subst hi; exact g
 | flnil => exact key [_] fun i hi => by simp at hi; subst hi; trivial
 | flcons _ _ _ _ _ _ _ => exact key [_] fun i hi => by simp at hi; subst hi; trivial
 | slice b off sz u h1 h2 h3 h3' _ _ _ _ => exact key [_] fun i hi => by simp at hi; subst hi; exact h3'
theorem AW.know {P : Program} {m : Nat} {c : Code} {Q : QT} {t : List AV} {h : List AObj} (n j : Nat) (hw : VF ((parts (t.getD n .unk)).getD j .unk) → AW P m c Q t h) : AW P m c Q t h := by
 intro C κ a w hk hs
 refine hw ?_ C κ a w hk hs
 by_cases hn : n < t.length
 ·exact (hs.slot n hn).parts j
 ·have : t.getD n .unk = .unk := by rw [List.getD, List.getElem?_eq_none (Nat.le_of_not_lt hn)]; rfl
  rw [this]
  cases j with
  | zero => trivial
  | succ j => trivial
end Abs
end Go.Proofs.YtiiaccpcoclklaaGreat

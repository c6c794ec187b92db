/-
  Regions in which an empty literal of a slice is a block that nobody else looks at. Conditions: none; lemmas over any program.
-/
import Derived.Test.YtkopaeklihhdlaaGreatCAbs38oxaced69
set_option linter.unusedSimpArgs false
set_option linter.unusedVariables false
namespace Go.Proofs.YtkopaeklihhdlaaGreat
namespace Abs
open Go
theorem ad3 {P : Program} {o : Oper} {s : ASt} {t k e sz by_ : Nat} (ho : o.op = .buildSlice t 0 #[]) (he : jV P t = some (e, sz, by_)) (hk : bT (obj? s.heap k) = true) : sP P o s (s.wr (.obj k (.arr sz []) :: aM o.dst (.psl k sz 0))) :=
 mD fun C κ a w hs => by
  obtain ⟨hut, i, zv', hi, hsz, hby, hzz, hzs⟩ := kJ he
  obtain ⟨κ', hsim⟩ := Pf hs hk (es := []) (c := #[]) (e := e) (cap := 0) (sz := sz) (fun i hi => by simp at hi) (by simp) (by simp) (by simp) (fun i j hi => by simp at hi) o.dst
  refine ⟨_, κ', _, ?_, hsim⟩
  have hsize : (sizeOf e).run P w = .ok sz w := by simp [sizeOf, typeInfo, hi, hsz]
  simp only [execOp, ho, Instr.buildSlice, Sem.run_bind, run_underlying hut, Result.andThen_ok, hsize]
  rw [Sem.run_ite, if_neg (by omega)]
  simp only [Sem.run_pure, Result.andThen_ok, Sem.run_bind]
  rw [if_pos (by omega)]
  simp [newRow, Instr.fill, show Array.range 0 = #[] from rfl]
def aa2 (τ : Nat → TI) (k : Nat) (d : Option Tmp) (ρ : Operand → AV) (σ : Nat → AObj) (K : List Nat → List Wr → Prop) : Op → Prop
 | .buildSlice t len parts => match len, parts.toList with
  | 0, [] => eG (τ t).elem fun e => eY (bT (σ k)) (K [k] (.obj k (.arr e.2.1 []) :: aM d (.psl k e.2.1 0))) False
  | _, _ => Fy τ k d ρ σ K (.buildSlice t len parts)
 | op => Fy τ k d ρ σ K op
theorem acD {τ : Nat → TI} {k : Nat} {d : Option Tmp} {ρ : Operand → AV} {σ : Nat → AObj} {K : List Nat → List Wr → Prop} {op : Op} (h : aa2 τ k d ρ σ K op) : Fy τ k d ρ σ K op ∨ ∃ t e, op = .buildSlice t 0 #[] ∧ (τ t).elem = some e ∧ bT (σ k) = true ∧ K [k] (.obj k (.arr e.2.1 []) :: aM d (.psl k e.2.1 0)) := by
 unfold aa2 at h
 split at h
 ·rename_i t len parts
  split at h
  ·rename_i hp
   obtain ⟨e, h1, h2⟩ := bK h
   rcases bC h2 with ⟨h3, h4⟩ | ⟨_, h4⟩
   ·refine .inr ⟨t, e, ?_, h1, h3, h4⟩
    have : parts = #[] := by
     have := congrArg List.toArray hp
     simpa using this
    rw [this]
   ·exact h4.elim
  ·exact .inl h
 ·exact .inl h
def zW (P : Program) (τ : Nat → TI) (ops : List Oper) : List Oper → Nat → List Eff → List AV → List AObj → (List Eff → List AV → List AObj → Prop) → Prop
 | [], _, es, t, h, K => K es.reverse t h
 | o :: l, k, es, t, h, K => grd ops t
   (fun t => match jR o.op with
    | some (f, args) => GV (fun fid caps => KO t args.toList fun vs => fL (vs ++ caps) fun vs => ACallU P fid vs o.dst t h k fun k' ro ws => qZ ws t h fun t' h' => zW P τ ops l k' (⟨bI ops.toArray o, ro, ws⟩ :: es) t' h' K) (cK t f)
    | none => aa2 τ k o.dst (cK t) (obj? h) (fun rd ws => qZ ws t h fun t' h' => CU (iw o.op) (zW P τ ops l k (⟨bI ops.toArray o, rd, ws⟩ :: es) t' h' K) (zW P τ ops l (k + 1) (⟨bI ops.toArray o, rd, ws⟩ :: es) t' h' K)) o.op)
   (fun t => qZ (aM o.dst (.tup [])) t h fun t' h' => zW P τ ops l k (⟨bI ops.toArray o, [], aM o.dst (.tup [])⟩ :: es) t' h' K) o.guard
theorem aaN {P : Program} {ops : List Oper} : ∀ (l : List Oper) (k : Nat) (es : List Eff) (t : List AV) (h : List AObj) (K : List Eff → List AV → List AObj → Prop), zW P (TI.of P) ops l k es t h K → ∃ es' s', ATr P ops.toArray l es' ⟨t, h⟩ s' ∧ K (es.reverse ++ es') s'.tmps s'.heap := by
 intro l
 induction l with
 | nil => intro k es t h K hr; exact ⟨[], ⟨t, h⟩, .nil _, by simpa [zW] using hr⟩
 | cons o l ih =>
  intro k es t h K hr
  have fin : ∀ (e : Eff) (k' : Nat), zV P ops.toArray o ⟨t, h⟩ e → (qZ e.ws t h fun t' h' => zW P (TI.of P) ops l k' (e :: es) t' h' K) → ∃ es' s', ATr P ops.toArray (o :: l) es' ⟨t, h⟩ s' ∧ K (es.reverse ++ es') s'.tmps s'.heap := fun e k' he hw => by
   rw [Oe] at hw
   obtain ⟨es', s', g1, g2⟩ := ih k' (e :: es) _ _ K hw
   exact ⟨e :: es', s', .cons he g1, by simpa using g2⟩
  simp only [zW] at hr
  rcases CF hr with ⟨hc, h1⟩ | ⟨hc, h2⟩
  ·cases hcall : jR o.op with
   | none =>
    rw [hcall] at h1
    obtain ⟨rd, ws, g1, g2⟩ : ∃ rd ws, zV P ops.toArray o ⟨t, h⟩ ⟨bI ops.toArray o, rd, ws⟩ ∧ qZ ws t h fun t' h' => CU (iw o.op) (zW P (TI.of P) ops l k (⟨bI ops.toArray o, rd, ws⟩ :: es) t' h' K) (zW P (TI.of P) ops l (k + 1) (⟨bI ops.toArray o, rd, ws⟩ :: es) t' h' K) := by
     rcases acD h1 with h1 | ⟨tt, e, ho, he, hk, h1⟩
     ·obtain ⟨rd, ws, g1, g2⟩ := II h1
      exact ⟨rd, ws, y9 (s := ⟨t, h⟩) hc g1, g2⟩
     ·refine ⟨_, _, fun s' hs' => .inl ⟨by rw [vX hs'.rs]; exact hc, ?_⟩, h1⟩
      refine ad3 ho (e := e.1) (by_ := e.2.2) he ?_
      rw [hs'.ro k (by simp)]
      exact hk
    have g2 : ∃ k', qZ ws t h fun t' h' => zW P (TI.of P) ops l k' (⟨bI ops.toArray o, rd, ws⟩ :: es) t' h' K := by
     cases hn : iw o.op with
     | zero => simp only [hn, CU] at g2; exact ⟨_, g2⟩
     | succ m => simp only [hn, CU] at g2; exact ⟨_, g2⟩
    obtain ⟨k', g2⟩ := g2
    exact fin ⟨bI ops.toArray o, rd, ws⟩ k' g1 g2
   | some p =>
    obtain ⟨f, args⟩ := p
    rw [hcall] at h1
    simp only at h1
    unfold GV at h1
    split at h1
    ·rename_i fid caps g1
     simp only [JF, rG] at h1
     replace h1 := h1.out
     simp only [zJ] at h1
     obtain ⟨hok, ρ, ks, aargs, H, res, H', g2, g3, g4, g5, g6⟩ := h1
     obtain ⟨tt, ho⟩ := sJ hcall
     exact fin _ _ (yZ (s := ⟨t, h⟩) hc ho g1 hok g2 g3 g4 g5) g6
    ·exact h1.elim
  ·exact fin _ k (yL (s := ⟨t, h⟩) hc) h2
theorem AW.D7 {P : Program} {τ : Nat → TI} {m id : Nat} {l : Array Oper} {dr : Bool} {Q : QT} {t : List AV} {h : List AObj} (hτ : τ = TI.of P) (hm : P.follows .mixedOrders = true) (r : Nat)
  (hr : rep r h fun h' => Jg h 0 fun k => zW P τ l.toList l.toList k [] t h' fun es t h => eY dr (oL l.toList es = true ∧ Q .normal t h) (Q .normal t h)) : AW P m (.region id l dr) Q t h := by
 subst hτ
 unfold rep at hr
 simp only [rG, JG] at hr
 obtain ⟨es, s', h1, h2⟩ := aaN _ _ _ _ _ _ hr
 simp only [List.reverse_nil, List.nil_append] at h2
 have hl : l = l.toList.toArray := by simp
 rw [hl]
 rcases bC h2 with ⟨rfl, g1, g2⟩ | ⟨rfl, g⟩
 ·exact AW.of (bX.drawn (s := ⟨t, h⟩) r hm h1 g1 g2)
 ·exact AW.of (bX.region (s := ⟨t, h⟩) r h1.steps g)
def aej (l c : Int) (bytes sz : Nat) (z : List AV) (K : List (List AV) → Nat → Prop) : Prop := ∃ es m, (0 ≤ l ∧ l ≤ c ∧ bytes * c ≤ 281474976710656 ∧ c ≤ 140737488355328 ∧ z.length = sz) ∧ es = List.replicate l.toNat z ∧ m = l.toNat ∧ K es m
def stepM (τ : Nat → TI) (k : Nat) (d : Option Tmp) (ρ : Operand → AV) (σ : Nat → AObj) (K : List Nat → List Wr → Prop) : Op → Prop
 | .makeSlice t x y => match ρ x, ρ y with
  | .int _ l, .int _ c => eG (τ t).elem fun e => eG (τ e.1).zero fun z => eY (bT (σ k)) (aej l c e.2.2 e.2.1 z fun es m => K [k] (.obj k (.arr e.2.1 es) :: aM d (.psl k e.2.1 m))) False
  | _, _ => False
 | op => Fy τ k d ρ σ K op
theorem abR {P : Program} {k : Nat} {o : Oper} {ρ : Operand → AV} {σ : Nat → AObj} {K : List Nat → List Wr → Prop} (h : stepM (TI.of P) k o.dst ρ σ K o.op) : ∃ rd ws, aZ P k o ρ σ = some (rd, ws) ∧ K rd ws := by
 obtain ⟨dst, op, ty, pos, after, guard⟩ := o
 dsimp only at h
 unfold stepM at h
 split at h
 ·rename_i t x y
  split at h
  ·rename_i kl l kc c hx hy
   obtain ⟨e, h1, h2⟩ := bK h
   obtain ⟨z, h3, h4⟩ := bK h2
   rcases bC h4 with ⟨h5, es, m, hb, rfl, rfl, h6⟩ | ⟨_, h6⟩
   ·refine ⟨[k], .obj k (.arr e.2.1 (List.replicate l.toNat z)) :: aM dst (.psl k e.2.1 l.toNat), ?_, h6⟩
    have h1 : jV P t = some e := h1
    have h3 : jT P e.1 = some z := h3
    simp only [aZ, h1, hx, hy, h3]
    rw [if_pos ⟨h5, hb⟩]
    rfl
   ·exact h6.elim
  ·exact h.elim
 ·exact II (o := ⟨dst, op, ty, pos, after, guard⟩) h
def runM (P : Program) (τ : Nat → TI) (ops : List Oper) : List Oper → Nat → List Eff → List AV → List AObj → (List Eff → List AV → List AObj → Prop) → Prop
 | [], _, es, t, h, K => K es.reverse t h
 | o :: l, k, es, t, h, K => grd ops t
   (fun t => match jR o.op with
    | some (f, args) => GV (fun fid caps => KO t args.toList fun vs => fL (vs ++ caps) fun vs => ACallU P fid vs o.dst t h k fun k' ro ws => qZ ws t h fun t' h' => runM P τ ops l k' (⟨bI ops.toArray o, ro, ws⟩ :: es) t' h' K) (cK t f)
    | none => stepM τ k o.dst (cK t) (obj? h) (fun rd ws => qZ ws t h fun t' h' => CU (iw o.op) (runM P τ ops l k (⟨bI ops.toArray o, rd, ws⟩ :: es) t' h' K) (runM P τ ops l (k + 1) (⟨bI ops.toArray o, rd, ws⟩ :: es) t' h' K)) o.op)
   (fun t => qZ (aM o.dst (.tup [])) t h fun t' h' => runM P τ ops l k (⟨bI ops.toArray o, [], aM o.dst (.tup [])⟩ :: es) t' h' K) o.guard
theorem aay {P : Program} {ops : List Oper} : ∀ (l : List Oper) (k : Nat) (es : List Eff) (t : List AV) (h : List AObj) (K : List Eff → List AV → List AObj → Prop), runM P (TI.of P) ops l k es t h K → ∃ es' s', ATr P ops.toArray l es' ⟨t, h⟩ s' ∧ K (es.reverse ++ es') s'.tmps s'.heap := by
 intro l
 induction l with
 | nil => intro k es t h K hr; exact ⟨[], ⟨t, h⟩, .nil _, by simpa [runM] using hr⟩
 | cons o l ih =>
  intro k es t h K hr
  have fin : ∀ (e : Eff) (k' : Nat), zV P ops.toArray o ⟨t, h⟩ e → (qZ e.ws t h fun t' h' => runM P (TI.of P) ops l k' (e :: es) t' h' K) → ∃ es' s', ATr P ops.toArray (o :: l) es' ⟨t, h⟩ s' ∧ K (es.reverse ++ es') s'.tmps s'.heap := fun e k' he hw => by
   rw [Oe] at hw
   obtain ⟨es', s', g1, g2⟩ := ih k' (e :: es) _ _ K hw
   exact ⟨e :: es', s', .cons he g1, by simpa using g2⟩
  simp only [runM] at hr
  rcases CF hr with ⟨hc, h1⟩ | ⟨hc, h2⟩
  ·cases hcall : jR o.op with
   | none =>
    rw [hcall] at h1
    obtain ⟨rd, ws, g1, g2⟩ := abR h1
    have g2 : ∃ k', qZ ws t h fun t' h' => runM P (TI.of P) ops l k' (⟨bI ops.toArray o, rd, ws⟩ :: es) t' h' K := by
     cases hn : iw o.op with
     | zero => simp only [hn, CU] at g2; exact ⟨_, g2⟩
     | succ m => simp only [hn, CU] at g2; exact ⟨_, g2⟩
    obtain ⟨k', g2⟩ := g2
    exact fin ⟨bI ops.toArray o, rd, ws⟩ k' (y9 (s := ⟨t, h⟩) hc g1) g2
   | some p =>
    obtain ⟨f, args⟩ := p
    rw [hcall] at h1
    simp only at h1
    unfold GV at h1
    split at h1
    ·rename_i fid caps g1
     simp only [JF, rG] at h1
     replace h1 := h1.out
     simp only [zJ] at h1
     obtain ⟨hok, ρ, ks, aargs, H, res, H', g2, g3, g4, g5, g6⟩ := h1
     obtain ⟨tt, ho⟩ := sJ hcall
     exact fin _ _ (yZ (s := ⟨t, h⟩) hc ho g1 hok g2 g3 g4 g5) g6
    ·exact h1.elim
  ·exact fin _ k (yL (s := ⟨t, h⟩) hc) h2
theorem AW.ZG {P : Program} {τ : Nat → TI} {m id : Nat} {l : Array Oper} {dr : Bool} {Q : QT} {t : List AV} {h : List AObj} (hτ : τ = TI.of P) (hm : P.follows .mixedOrders = true) (r : Nat)
  (hr : rep r h fun h' => Jg h 0 fun k => runM P τ l.toList l.toList k [] t h' fun es t h => eY dr (oL l.toList es = true ∧ Q .normal t h) (Q .normal t h)) : AW P m (.region id l dr) Q t h := by
 subst hτ
 unfold rep at hr
 simp only [rG, JG] at hr
 obtain ⟨es, s', h1, h2⟩ := aay _ _ _ _ _ _ hr
 simp only [List.reverse_nil, List.nil_append] at h2
 have hl : l = l.toList.toArray := by simp
 rw [hl]
 rcases bC h2 with ⟨rfl, g1, g2⟩ | ⟨rfl, g⟩
 ·exact AW.of (bX.drawn (s := ⟨t, h⟩) r hm h1 g1 g2)
 ·exact AW.of (bX.region (s := ⟨t, h⟩) r h1.steps g)
def xY (b : Bool) : List AV := [.bool b]
theorem G6 (g : Nat → Nat) (l : List Bool) : bq g (l.map xY) = l.map xY := sI (fun _ _ => rfl) g l
def ZH {α : Type} (n : Int) (v : α) : Option (List α) := if 0 ≤ n ∧ n ≤ 1000000000 then some (List.replicate n.toNat v) else none
theorem mks {α : Type} {n : Int} {v : α} {x : List α} {f : α → List AV} {z : List AV} {sz b : Nat} {B : List (List AV) → Nat → Prop} (h : ZH n v = some x) (hz : f v = z) (hl : z.length = sz) (hb : b ≤ 1000) (hB : B (x.map f) x.length) : aej n n b sz z B := by
 unfold ZH at h
 split at h
 ·rename_i hn
  obtain rfl := Option.some.inj h
  refine ⟨_, _, ⟨hn.1, Int.le_refl _, ?_, by omega, hl⟩, ?_, ?_, hB⟩
  ·have : (b : Int) * n ≤ 1000 * 1000000000 := Int.mul_le_mul (by omega) hn.2 hn.1 (by omega)
   omega
  ·rw [List.map_replicate, hz]
  ·rw [List.length_replicate]
 ·cases h
end Abs
end Go.Proofs.YtkopaeklihhdlaaGreat

/-
  Union of the program and of the document come to the same plain answer; the law TypingUnions. Conditions: none; lemmas without a program.
-/
import Derived.Test.YtiiaccpcoclklaaGreatCG1ox39da9b
set_option linter.unusedSimpArgs false
set_option linter.unusedVariables false
namespace Go.Proofs.YtiiaccpcoclklaaGreat
namespace Abs
open Go
theorem asK {α β γ : Type} (l : List α) (l' : List β) (i : Int) (F : α → β → Option γ) : ((idx l i).bind fun x => (idx l' i).bind fun y => F x y) = (idx (l.zip l') i).bind fun p => F p.1 p.2 := by
 unfold idx
 by_cases h : 0 ≤ i
 ·simp only [if_pos h, List.zip, List.getElem?_zipWith]
  cases l[i.toNat]? <;> cases l'[i.toNat]? <;> rfl
 ·simp only [if_neg h]; rfl
theorem Mw {α β ρ : Type} (l : List α) (l' : List β) (hlen : l.length = l'.length) (L : Nat → Nat → Int → Option (LR Unit ρ)) (step : Nat → α → β → Option Bool) (p : α → β → Bool) (r : ρ)
  (hL : ∀ n k i, L n (k + 1) i = cond (decide (i < (l.length : Int))) ((idx l i).bind fun x => (idx l' i).bind fun y => (step n x y).bind fun b => cond b (some (.rt r)) (L n k (i + 1))) (some (.nx ())))
  (hp : ∀ x ∈ l, ∀ y, Ev (fun n => step n x y) (p x y)) : Ev (fun n => L n n 0) (cond ((l.zip l').any fun q => p q.1 q.2) (.rt r) (.nx ())) := by
 refine jI (l.zip l') L (fun n q => step n q.1 q.2) (fun q => p q.1 q.2) r (fun n k i => ?_) (fun q hq => hp q.1 (List.of_mem_zip hq).1 q.2)
 rw [hL, ← asK l l' i fun x y => (step n x y).bind fun b => cond b (some (.rt r)) (L n k (i + 1))]
 have : ((l.zip l').length : Int) = (l.length : Int) := by rw [List.length_zip, ← hlen, Nat.min_self]
 rw [this]
mutual
def bV : Ty → Ty → Bool
 | .mk k n ks, .mk k' n' ks' => (k == k') && ((n == n') && AY ks ks')
def AY : List Ty → List Ty → Bool
 | [], [] => true
 | [], _ :: _ => false
 | _ :: _, [] => false
 | a :: ar, b :: br => bV a b && AY ar br
end
mutual
theorem zy : ∀ a b : Ty, bV a b = true → a = b
 | .mk k n ks, .mk k' n' ks', h => by
  simp only [bV, Bool.and_eq_true, beq_iff_eq] at h
  obtain ⟨h1, h2, h3⟩ := h
  rw [h1, h2, ai7 ks ks' h3]
theorem ai7 : ∀ a b : List Ty, AY a b = true → a = b
 | [], [], _ => rfl
 | [], _ :: _, h => by cases h
 | _ :: _, [], h => by cases h
 | a :: ar, b :: br, h => by
  simp only [AY, Bool.and_eq_true] at h
  rw [zy a b h.1, ai7 ar br h.2]
end
mutual
theorem FB : ∀ a : Ty, bV a a = true
 | .mk k n ks => by simp only [bV, beq_self_eq_true, acH ks, Bool.and_self]
theorem acH : ∀ a : List Ty, AY a a = true
 | [] => rfl
 | a :: ar => by simp only [AY, FB a, acH ar, Bool.and_self]
end
theorem UJ : ∀ l l' : List Ty, l.length = l'.length → (l.zip l').any (fun q => !(bV q.1 q.2)) = !(AY l l')
 | [], [], _ => rfl
 | [], _ :: _, h => by cases h
 | _ :: _, [], h => by cases h
 | a :: ar, b :: br, h => by
  have := UJ ar br (by simpa using h)
  simp only [List.zip_cons_cons, List.any_cons, this, AY]
  cases bV a b <;> rfl
theorem TU : ∀ l l' : List Ty, l.length ≠ l'.length → AY l l' = false
 | [], [], h => absurd rfl h
 | [], _ :: _, _ => rfl
 | _ :: _, [], _ => rfl
 | a :: ar, b :: br, h => by
  have := TU ar br (by simpa using h)
  simp only [AY, this, Bool.and_false]
theorem Aw : ∀ t u : Ty, Ev (fun n => gL n t u) (bV t u) := Ty.ind fun k nm ks ih u => by
 obtain ⟨k', nm', ks'⟩ := u
 refine Ev.succ ?_
 show Ev (fun n => vS n _ _ (.mk k nm ks) (.mk k' nm' ks')) _
 unfold vS
 simp only [Ty.kind, Ty.name, Ty.kids, bV]
 cases k == k' with
 | false => exact Ev.ret _
 | true =>
  cases nm == nm' with
  | false => exact Ev.ret _
  | true =>
   simp only [cond_true, Bool.true_and]
   refine Ev.bind (a := AY ks ks') (Ev.bind (a := AY ks ks') (Ev.succ ?_) (Ev.ret _)) (Ev.ret _)
   show Ev (fun n => l9 n _ _ ks ks') _
   unfold l9
   simp only [bne]
   cases hl : (ks.length : Int) == (ks'.length : Int) with
   | false =>
    have : ks.length ≠ ks'.length := fun e => by simp [e] at hl
    rw [TU ks ks' this]
    exact Ev.ret _
   | true =>
    have hlen : ks.length = ks'.length := by have := beq_iff_eq.1 hl; omega
    simp only [Bool.not_true, cond_false]
    have h := Mw ks ks' hlen (fun n k'' i => nR n (fun p0 p1 => kP n p0 p1) (fun p0 p1 => gL n p0 p1) ks ks' k'' i) (fun n x y => (gL n x y).bind fun b => some (!b)) (fun x y => !(bV x y)) false
     (fun n k'' i => by
      show cond _ _ _ = _
      congr 1
      congr 1
      funext x
      congr 1
      funext y
      simp only [Option.bind_assoc, Option.bind_some])
     (fun x hx y => Ev.bind (ih x hx y) (Ev.ret _))
    rw [UJ ks ks' hlen] at h
    refine Ev.bind h ?_
    cases AY ks ks'
    ·exact Ev.ret _
    ·exact Ev.ret _
structure Joined (a b : Env) (cs : List Carrier) (ds : List Decl) : Prop where
 c1 : ∀ c ∈ a.carriers, c ∈ cs
 c2 : ∀ c ∈ b.carriers, c ∈ cs
 c3 : ∀ c ∈ cs, c ∈ a.carriers ∨ c ∈ b.carriers
 d1 : ∀ d ∈ a.names, d ∈ ds
 d2 : ∀ d ∈ b.names, d ∈ ds
 d3 : ∀ d ∈ ds, d ∈ a.names ∨ d ∈ b.names
 cl : cs.length ≤ a.carriers.length + b.carriers.length
 dl : ds.length ≤ a.names.length + b.names.length
theorem Tm.ind {P : Tm → Prop} (h : ∀ k n m t ks, (∀ t ∈ ks, P t) → P (.mk k n m t ks)) (t : Tm) : P t := by
 match t with
 | .mk k n m ty ks => exact h k n m ty ks fun u _ => Tm.ind h u
termination_by SizeOf.sizeOf t
decreasing_by
 rename_i hu
 have := List.sizeOf_lt_of_mem hu
 simp only [Tm.mk.sizeOf_spec]
 omega
def dP (op : Int) : Int :=
 cond ((op == 1 || (op == 2 || (op == 19 || (op == 20 || op == 29))))) 0
  (cond ((op == 3 || (op == 21 || (decide (46 ≤ op) && decide (op ≤ 52))))) 1 (cond (op == 28) (-1) (cond (decide (4 ≤ op) && decide (op ≤ 56)) 2 (-2))))
def bE (op : Int) : Bool := op == 8 || (op == 9 || (op == 55 || op == 56))
theorem orC (a b : Bool) : (cond a (some true) (some b)) = some (a || b) := by cases a <;> rfl
theorem orS (a b : Bool) : (cond a (some a) (some b)) = some (a || b) := by cases a <;> rfl
theorem am2 (a b : Bool) : (cond a (some b) (some false)) = some (a && b) := by cases a <;> rfl
theorem amR (n : Nat) (op : Int) : Pt n op = some (dP op) := by
 unfold Pt dP
 simp only [orC, am2, Option.bind_some]
 cases (op == 1 || (op == 2 || (op == 19 || (op == 20 || op == 29)))) with
 | true => rfl
 | false =>
  cases (op == 3 || (op == 21 || (decide (46 ≤ op) && decide (op ≤ 52)))) with
  | true => rfl
  | false =>
   cases (op == 28) with
   | true => rfl
   | false => cases (decide (4 ≤ op) && decide (op ≤ 56)) <;> rfl
theorem awh (op : Int) : ((decide (46 ≤ op) && decide (op ≤ 51)) || op == 52) = (decide (46 ≤ op) && decide (op ≤ 52)) := by
 by_cases h1 : 46 ≤ op
 ·by_cases h2 : op ≤ 51
  ·simp [h1, h2, show op ≤ 52 by omega]
  ·by_cases h3 : op = 52
   ·subst h3; rfl
   ·simp [h2, h3, show ¬ op ≤ 52 by omega]
 ·simp [h1, show op ≠ 52 by omega]
theorem ahx (n : Nat) (op : Int) : IZ n op = some (cond (dP op == -2) (0, false) (dP op, true)) := by
 unfold IZ dP
 simp only [orS, am2, Option.bind_some, awh]
 cases h1 : (op == 1 || (op == 2 || (op == 19 || (op == 20 || op == 29)))) with
 | true => rfl
 | false =>
  cases h2 : (op == 3 || (op == 21 || (decide (46 ≤ op) && decide (op ≤ 52)))) with
  | true => rfl
  | false =>
   cases (op == 28) with
   | true => rfl
   | false =>
    simp only [Bool.or_eq_false_iff, beq_eq_false_iff_ne] at h1 h2
    have e : (decide (1 ≤ op) && decide (op ≤ 56)) = (decide (4 ≤ op) && decide (op ≤ 56)) := by
     by_cases h : 4 ≤ op
     ·simp [h, show 1 ≤ op by omega]
     ·simp [h, show ¬ 1 ≤ op by omega]
    rw [e]
    cases (decide (4 ≤ op) && decide (op ≤ 56)) <;> rfl
theorem aor (n : Nat) (op : Int) : BN n op = some (bE op) := by
 unfold BN bE
 simp only [orC, Option.bind_some]
theorem uz (n : Nat) (op : Int) : kG n op = some (bE op) := by
 unfold kG bE
 simp only [orC, Option.bind_some]
def zP (t : Ty) : Bool := t.kind == 0 && (t.name == [] && (t.kids.length : Int) == 0)
theorem akw (n : Nat) (t : Ty) : Bz n t = some (zP t) := by
 unfold Bz zP
 simp only [am2, Option.bind_some]
theorem aek (n : Nat) (t : Ty) : Eh n t = some (zP t) := by
 unfold Eh zP
 simp only [am2, Option.bind_some]
def qH (t : Tm) : Bool := cond (t.op == 20) (named t.name) (cond (bE t.op) (ident t.name) (t.name == []))
def Df (t : Tm) : Bool := cond (t.op == 19) (decide (0 ≤ t.n) && decide (t.n ≤ 1000000000)) (t.n == 0)
def Rw (t : Tm) : Bool := cond (t.op == 29) (bR t.ty && t.ty.kind != 2) (zP t.ty)
def yN (t : Tm) : Bool := !(dP t.op == -2) && cond (dP t.op == -1) (!((t.kids.length : Int) == 0)) ((t.kids.length : Int) == dP t.op)
def fK (t : Tm) : Bool := yN t && (qH t && (Df t && Rw t))
theorem aoD (t : Tm) (hs : t.name.length ≤ 9223372036854775807) : Ev (fun n => EF n t) (fK t) := by
 unfold EF fK
 simp only [ahx, Option.bind_some]
 have hfirst : Ev (fun n => ((((cond (!(cond (dP t.op == -2) ((0 : Int), false) (dP t.op, true)).2) (some (!(cond (dP t.op == -2) ((0 : Int), false) (dP t.op, true)).2)) (((cond ((cond (dP t.op == -2) ((0 : Int), false) (dP t.op, true)).1 == (-1)) (some ((t.kids.length : Int) == 0)) (some false)) : Option Bool).bind fun (s6 : Bool) => (cond s6 (some s6) (cond ((cond (dP t.op == -2) ((0 : Int), false) (dP t.op, true)).1 != (-1)) (some ((t.kids.length : Int) != (cond (dP t.op == -2) ((0 : Int), false) (dP t.op, true)).1)) (some false))))) : Option Bool)).bind fun (s5 : Bool) => (cond s5 (some (.rt false)) (cond (t.op == 20) ((JW n t.name).bind fun (x4 : Bool) => some (.nx x4)) ((BN n t.op).bind fun (x5 : Bool) => (cond x5 ((gY n t.name).bind fun (x6 : Bool) => some (.nx x6)) (some (.nx (t.name == ([] : Str)))))))) : Option (LR Bool Bool))) (cond (yN t) (.nx (qH t)) (.rt false)) := by
  refine Ev.bind (a := !(yN t)) ?_ ?_
  ·refine Ev.of fun n => ?_
   unfold yN
   cases h2 : dP t.op == -2 with
   | true => rfl
   | false =>
    simp only [cond_false, Bool.not_true, Bool.not_false, Bool.true_and]
    cases h1 : dP t.op == -1 with
    | true =>
     simp only [cond_true, Option.bind_some, bne, h1, Bool.not_true, cond_false]
     cases (t.kids.length : Int) == 0 <;> rfl
    | false =>
     simp only [cond_false, Option.bind_some, bne, h1, Bool.not_false, cond_true]
  ·cases yN t with
   | false => exact Ev.ret _
   | true =>
    simp only [Bool.not_true, cond_false, cond_true, qH, aor, Option.bind_some]
    cases t.op == 20 with
    | true =>
     refine Ev.bind (a := named t.name) ?_ (Ev.ret _)
     exact NJ t.name hs
    | false =>
     cases bE t.op with
     | true => exact Ev.bind (uo _) (Ev.ret _)
     | false => exact Ev.ret _
 refine Ev.bind hfirst ?_
 cases yN t with
 | false => exact Ev.ret _
 | true =>
  simp only [cond_true, Bool.true_and]
  refine Ev.bind (a := qH t && Df t) ?_ ?_
  ·unfold Df
   refine Ev.of fun n => ?_
   cases t.op == 19 <;> cases qH t <;> cases decide (0 ≤ t.n) <;> rfl
  ·unfold Rw
   cases t.op == 29 with
   | true =>
    simp only [cond_true]
    refine Ev.bind (a := qH t && (Df t && (bR t.ty && t.ty.kind != 2))) ?_ (Ev.ret _)
    cases qH t with
    | false => exact Ev.ret _
    | true =>
     cases Df t with
     | false => exact Ev.ret _
     | true =>
      simp only [Bool.true_and, cond_true]
      cases hk : t.ty.kind != 2 with
      | false => simp only [cond_false, Bool.and_false]; exact Ev.ret _
      | true => simp only [cond_true, Bool.and_true]; exact Ev.bind (kH _) (Ev.ret _)
   | false =>
    simp only [cond_false, akw, Option.bind_some]
    refine Ev.of fun n => ?_
    cases qH t <;> cases Df t <;> rfl
theorem amS (t : Tm) : Ev (fun n => Pm n t) (fK t) := by
 unfold Pm fK
 simp only [amR, Option.bind_some]
 refine Ev.bind (a := !(yN t)) ?_ ?_
 ·refine Ev.of fun n => ?_
  unfold yN
  cases h2 : dP t.op == -2 with
  | true => rfl
  | false =>
   simp only [cond_false, Bool.not_true, Bool.not_false, Bool.true_and]
   cases h1 : dP t.op == -1 with
   | true =>
    have e : dP t.op = -1 := by simpa using h1
    rw [e]
    cases (t.kids.length : Int) == 0 <;> rfl
   | false =>
    have hge : decide (0 ≤ dP t.op) = true := by
     unfold dP at h1 h2 ⊢
     revert h1 h2
     cases (t.op == 1 || (t.op == 2 || (t.op == 19 || (t.op == 20 || t.op == 29)))) <;> cases (t.op == 3 || (t.op == 21 || (decide (46 ≤ t.op) && decide (t.op ≤ 52)))) <;> cases (t.op == 28) <;> cases (decide (4 ≤ t.op) && decide (t.op ≤ 56)) <;> intro h1 h2 <;> first | rfl | exact absurd h1 (by decide) | exact absurd h2 (by decide)
    simp only [cond_false, hge, cond_true, bne]
 ·cases yN t with
  | false => exact Ev.ret _
  | true =>
   simp only [Bool.not_true, cond_false, Bool.true_and]
   refine Ev.bind (a := cond (qH t) (.nx ()) (.rt false)) ?_ ?_
   ·unfold qH
    simp only [uz, Option.bind_some]
    cases t.op == 20 with
    | true =>
     refine Ev.bind (Eo _) ?_
     simp only [cond_true]
     cases named t.name
     ·exact Ev.ret _
     ·exact Ev.ret _
    | false =>
     simp only [cond_false]
     cases bE t.op with
     | true =>
      refine Ev.bind (nU _) ?_
      simp only [cond_true]
      cases ident t.name
      ·exact Ev.ret _
      ·exact Ev.ret _
     | false =>
      simp only [cond_false]
      cases t.name == ([] : Str)
      ·exact Ev.ret _
      ·exact Ev.ret _
   ·cases qH t with
    | false => exact Ev.ret _
    | true =>
     simp only [cond_true, Bool.true_and]
     refine Ev.bind (a := !(Df t)) ?_ ?_
     ·refine Ev.of fun n => ?_
      unfold Df
      cases h19 : t.op == 19 with
      | true =>
       simp only [cond_true, bne, h19, Bool.not_true, cond_false]
       by_cases h0 : t.n < 0
       ·rw [decide_eq_true h0, decide_eq_false (show ¬ 0 ≤ t.n by omega)]; rfl
       ·rw [decide_eq_false h0, decide_eq_true (show 0 ≤ t.n by omega)]
        by_cases hb : 1000000000 < t.n
        ·rw [decide_eq_true hb, decide_eq_false (show ¬ t.n ≤ 1000000000 by omega)]; rfl
        ·rw [decide_eq_false hb, decide_eq_true (show t.n ≤ 1000000000 by omega)]; rfl
      | false => simp only [cond_false, bne, h19, Bool.not_false, cond_true]
     ·cases Df t with
      | false => exact Ev.ret _
      | true =>
       simp only [Bool.not_true, cond_false, Bool.true_and]
       unfold Rw
       cases t.op == 29 with
       | true =>
        simp only [cond_true]
        refine Ev.bind (a := bR t.ty && t.ty.kind != 2) (Ev.bind (kY _) ?_) (Ev.ret _)
        cases bR t.ty
        ·exact Ev.ret _
        ·exact Ev.ret _
       | false =>
        simp only [cond_false, aek, Option.bind_some]
        exact Ev.ret _
mutual
def mf : Tm → Int → Int → Bool × Int
 | .mk op nm m ty ks, d, c => cond ((decide (c + 1 ≤ 2000) && decide (d ≤ 64)) && fK (.mk op nm m ty ks)) (kS ks (d + 1) (c + 1)) (false, c + 1)
def kS : List Tm → Int → Int → Bool × Int
 | [], _, c => (true, c)
 | t :: ts, d, c => cond (mf t d c).1 (kS ts d (mf t d c).2) (false, (mf t d c).2)
end
mutual
theorem QL : ∀ (t : Tm) (d c : Int), (mf t d c).1 = true → c < (mf t d c).2 ∧ (mf t d c).2 ≤ 2000
 | .mk op nm m ty ks, d, c, h => by
  simp only [mf] at h ⊢
  cases hb : ((decide (c + 1 ≤ 2000) && decide (d ≤ 64)) && fK (.mk op nm m ty ks)) with
  | false => rw [hb] at h; cases h
  | true =>
   rw [hb] at h
   simp only [cond_true] at h ⊢
   simp only [Bool.and_eq_true, decide_eq_true_eq] at hb
   have := adt ks (d + 1) (c + 1) h
   omega
theorem adt : ∀ (ts : List Tm) (d c : Int), (kS ts d c).1 = true → c ≤ (kS ts d c).2 ∧ (c ≤ 2000 → (kS ts d c).2 ≤ 2000)
 | [], _, c, _ => by simp [kS]
 | t :: ts, d, c, h => by
  simp only [kS] at h ⊢
  cases hb : (mf t d c).1 with
  | false => rw [hb] at h; cases h
  | true =>
   rw [hb] at h
   simp only [cond_true] at h ⊢
   have h1 := QL t d c hb
   have h2 := adt ts d _ h
   exact ⟨by omega, fun _ => h2.2 h1.2⟩
end
mutual
def gu : Tm → Prop
 | .mk _ nm _ _ ks => nm.length ≤ 9223372036854775807 ∧ Fj ks
def Fj : List Tm → Prop
 | [] => True
 | t :: ts => gu t ∧ Fj ts
end
theorem aie : ∀ {ts : List Tm}, Fj ts → ∀ t ∈ ts, gu t
 | [], _, t, h => by cases h
 | u :: ts, h, t, ht => by
  simp only [Fj] at h
  rcases List.mem_cons.1 ht with rfl | ht
  ·exact h.1
  ·exact aie h.2 t ht
theorem apx (n : Nat) (c d : Int) (h0 : 0 ≤ c) (h1 : c ≤ 2000) : lG n c 2000 64 d = some (decide (c + 1 ≤ 2000) && decide (d ≤ 64), c + 1) := by
 unfold lG
 rw [wrap64 (by omega) (by omega)]
 cases decide (c + 1 ≤ 2000) <;> rfl
def auq (t : Tm) : Prop := gu t → ∀ d c : Int, 1 ≤ d → d ≤ 65 → 0 ≤ c → c ≤ 2000 → Ev (fun n => iU n c 2000 64 t d) (mf t d c)
theorem alz (d : Int) : ∀ (ts : List Tm) (i c : Int), 0 ≤ i → (∃ j, 0 ≤ j ∧ (kS ts d c).1 = false ∧ dX (τ := Int) (fun i x s => cond (!(mf x d s).1) (.rt (i, (mf x d s).2)) (.nx (mf x d s).2)) (fun s => s) i ts c = .rt (j, (kS ts d c).2)) ∨ ((kS ts d c).1 = true ∧ dX (ρ := Int × Int) (fun i x s => cond (!(mf x d s).1) (.rt (i, (mf x d s).2)) (.nx (mf x d s).2)) (fun s => s) i ts c = .nx (kS ts d c).2)
 | [], i, c, _ => .inr ⟨rfl, rfl⟩
 | t :: ts, i, c, hi => by
  simp only [kS, dX]
  cases hb : (mf t d c).1 with
  | false => exact .inl ⟨i, hi, rfl, rfl⟩
  | true => exact alz d ts (i + 1) _ (by omega)
theorem am1 (ts : List Tm) (h : ∀ t ∈ ts, auq t) (hS : Fj ts) (d c : Int) (hd : 1 ≤ d) (hd6 : d ≤ 64) (h0 : 0 ≤ c) (h1 : c ≤ 2000) : Ev (fun n => fP n ts c 2000 64 d) (!(kS ts (d + 1) c).1, (kS ts (d + 1) c).2) := by
 refine Ev.succ ?_
 show Ev (fun n => ko n _ _ _ _ ts c 2000 64 d) _
 unfold ko
 have hloop := Hw ts (fun n k i s => nS n (fun p0 p1 p2 p3 p4 => iF n p0 p1 p2 p3 p4) (fun p0 p1 p2 p3 p4 => fP n p0 p1 p2 p3 p4) (fun p0 p1 p2 p3 p4 => iU n p0 p1 p2 p3 p4) (fun p0 p1 p2 p3 p4 => gG n p0 p1 p2 p3 p4) ts 2000 64 d k (i, s))
  (fun n i x s => (gG n x s 2000 64 d).bind fun x2 => cond x2.1 (some (.rt (i, x2.2))) (some (.nx x2.2))) (fun i x s => cond (!(mf x (d + 1) s).1) (.rt (i, (mf x (d + 1) s).2)) (.nx (mf x (d + 1) s).2)) (fun s => s) (fun _ _ s => 0 ≤ s ∧ s ≤ 2000)
  (fun n k i s => by
   show cond _ _ _ = _
   congr 1
   congr 1
   funext x
   dsimp only
   cases gG n x s 2000 64 d with
   | none => rfl
   | some b => obtain ⟨b, e⟩ := b; cases b <;> rfl)
  (fun i x suf s hx hs => ⟨by
   have hfit : Ev (fun n => gG n x s 2000 64 d) (!(mf x (d + 1) s).1, (mf x (d + 1) s).2) := by
    refine Ev.succ ?_
    show Ev (fun n => nL n _ _ _ _ x s 2000 64 d) _
    unfold nL
    have := h x hx (aie hS x hx) (d + 1) s (by omega) (by omega) hs.1 hs.2
    rw [wrap64 (by omega) (by omega)]
    exact Ev.bind this (Ev.ret _)
   refine Ev.bind hfit ?_
   cases (mf x (d + 1) s).1
   ·exact Ev.ret _
   ·exact Ev.ret _, fun s' he => by
    cases hb : (mf x (d + 1) s).1 with
    | false => rw [hb] at he; cases he
    | true =>
     rw [hb] at he
     simp only [Bool.not_true, cond_false, LR.nx.injEq] at he
     have := QL x (d + 1) s hb
     omega⟩) (s0 := c) ⟨h0, h1⟩
 rcases alz (d + 1) ts 0 c (Int.le_refl _) with ⟨j, hj, hf, hr⟩ | ⟨ht, hr⟩
 ·rw [hr] at hloop
  refine Ev.bind (a := (j, (kS ts (d + 1) c).2)) (Ev.succ ?_) ?_
  ·show Ev (fun n => iN n _ _ _ _ ts c 2000 64 d) _
   unfold iN
   exact Ev.bind hloop (Ev.ret _)
  ·rw [hf]
   simp only [decide_eq_true hj]
   exact Ev.ret _
 ·rw [hr] at hloop
  refine Ev.bind (a := (-1, (kS ts (d + 1) c).2)) (Ev.succ ?_) ?_
  ·show Ev (fun n => iN n _ _ _ _ ts c 2000 64 d) _
   unfold iN
   exact Ev.bind hloop (Ev.ret _)
  ·rw [ht]
   exact Ev.ret _
theorem ava : ∀ t : Tm, auq t := Tm.ind fun op nm m ty ks ih hS d c hd hd7 h0 h1 => by
 refine Ev.succ ?_
 show Ev (fun n => o9 n _ _ _ _ c 2000 64 (.mk op nm m ty ks) d) _
 unfold o9
 simp only [gu] at hS
 simp only [apx _ c d h0 h1, Option.bind_some, mf]
 cases hb : (decide (c + 1 ≤ 2000) && decide (d ≤ 64)) with
 | false => exact Ev.ret _
 | true =>
  simp only [Bool.and_eq_true, decide_eq_true_eq] at hb
  simp only [Bool.not_true, cond_false, Bool.true_and]
  refine Ev.bind (a := (!(fK (.mk op nm m ty ks)), c + 1)) (Ev.bind (aoD (.mk op nm m ty ks) hS.1) (Ev.ret _)) ?_
  cases fK (.mk op nm m ty ks) with
  | false => exact Ev.ret _
  | true =>
   simp only [Bool.not_true, cond_false, cond_true]
   refine Ev.bind (am1 ks ih hS.2 d (c + 1) hd hb.2 (by omega) hb.1) ?_
   simp only [Bool.not_not]
   exact Ev.ret _
def cB (t : Tm) : Bool := (mf t 1 0).1
theorem Js (t : Tm) (hS : gu t) : Ev (fun n => Ak n t) (cB t) := by
 unfold Ak
 exact Ev.bind (ava t hS 1 0 (by omega) (by omega) (by omega) (by omega)) (Ev.ret _)
def mt (t : Tm) (d c : Int) : Int := cond (mf t d c).1 (mf t d c).2 (-1)
def atu (t : Tm) : Prop := ∀ d c : Int, 1 ≤ d → d ≤ 65 → 0 ≤ c → c ≤ 2000 → Ev (fun n => xk n t d c) (mt t d c)
theorem akD (d : Int) : ∀ (ts : List Tm) (c : Int), 0 ≤ c → lY (τ := Int) (fun x s => cond (decide (mt x d s < 0)) (.rt (-1)) (.nx (mt x d s))) (fun s => s) ts c = cond (kS ts d c).1 (.nx (kS ts d c).2) (.rt (-1))
 | [], c, _ => rfl
 | t :: ts, c, h0 => by
  simp only [kS, lY]
  by_cases hb : (mf t d c).1 = true
  ·have h1 := QL t d c hb
   have h2 : mt t d c = (mf t d c).2 := by simp only [mt, hb, cond_true]
   have h3 : decide ((mf t d c).2 < 0) = false := decide_eq_false (by omega)
   simp only [h2, h3, hb, cond_true, cond_false]
   exact akD d ts (mf t d c).2 (by omega)
  ·have hb' : (mf t d c).1 = false := by simpa using hb
   have h2 : mt t d c = -1 := by simp only [mt, hb', cond_false]
   have h3 : decide (mt t d c < 0) = true := decide_eq_true (by omega)
   simp only [h3, hb', cond_true, cond_false]
theorem nodes : ∀ t : Tm, atu t := Tm.ind fun op nm m ty ks ih d c hd hd7 h0 h1 => by
 refine Ev.succ ?_
 show Ev (fun n => Bw n _ (.mk op nm m ty ks) d c) _
 unfold Bw
 simp only [mt, mf]
 rw [wrap64 (by omega) (by omega)]
 by_cases hd6 : d ≤ 64
 case neg =>
  rw [decide_eq_true (show 64 < d by omega), decide_eq_false hd6]
  simp only [Bool.and_false, Bool.false_and, cond_false]
  exact Ev.ret _
 by_cases hc : c + 1 ≤ 2000
 case neg =>
  rw [decide_eq_false (show ¬ 64 < d by omega), decide_eq_true (show 2000 < c + 1 by omega), decide_eq_false hc]
  simp only [Bool.false_and, cond_false, cond_true]
  exact Ev.ret _
 rw [decide_eq_false (show ¬ 64 < d by omega), decide_eq_false (show ¬ 2000 < c + 1 by omega), decide_eq_true hd6, decide_eq_true hc]
 simp only [cond_false, Bool.true_and]
 refine Ev.bind (a := !(fK (.mk op nm m ty ks))) (Ev.bind (amS _) (Ev.ret _)) ?_
 cases fK (.mk op nm m ty ks) with
 | false => exact Ev.ret _
 | true =>
  simp only [Bool.not_true, cond_false, cond_true]
  have hloop := Em ks (fun n k' i s => EJ n (fun p0 p1 p2 => xk n p0 p1 p2) (.mk op nm m ty ks) d k' (s, i)) (fun n x s => (xk n x (IntKind.wrap .i64 (d + 1)) s).bind fun x2 => cond (decide (x2 < 0)) (some (.rt (-1))) (some (.nx x2)))
   (fun x s => cond (decide (mt x (d + 1) s < 0)) (.rt (-1)) (.nx (mt x (d + 1) s))) (fun s => s) (fun _ s => 0 ≤ s ∧ s ≤ 2000)
   (fun n k' i s => by
    show cond _ _ _ = _
    congr 1
    show (idx ks i).bind _ = _
    congr 1
    funext x
    dsimp only
    cases xk n x (IntKind.wrap .i64 (d + 1)) s with
    | none => rfl
    | some b => simp only [Option.bind_some]; cases decide (b < 0) <;> rfl)
   (fun x suf s hx hs => ⟨by
    rw [wrap64 (by omega) (by omega)]
    refine Ev.bind (ih x hx (d + 1) s (by omega) (by omega) hs.1 hs.2) ?_
    cases decide (mt x (d + 1) s < 0)
    ·exact Ev.ret _
    ·exact Ev.ret _, fun s' he => by
     cases hb : decide (mt x (d + 1) s < 0) with
     | true => rw [hb] at he; cases he
     | false =>
      rw [hb] at he
      simp only [cond_false, LR.nx.injEq] at he
      have hneg : ¬ mt x (d + 1) s < 0 := of_decide_eq_false hb
      subst he
      unfold mt at hneg ⊢
      cases hb2 : (mf x (d + 1) s).1 with
      | false => rw [hb2] at hneg; simp at hneg
      | true => have := QL x (d + 1) s hb2; simp only [cond_true]; omega⟩) (s0 := c + 1) ⟨by omega, hc⟩
  rw [akD _ _ _ (by omega)] at hloop
  refine Ev.bind hloop ?_
  cases (kS ks (d + 1) (c + 1)).1
  ·exact Ev.ret _
  ·exact Ev.ret _
theorem jB (t : Tm) : Ev (fun n => iA n t) (cB t) := by
 unfold iA
 refine Ev.bind (nodes t 1 0 (by omega) (by omega) (by omega) (by omega)) ?_
 unfold mt cB
 cases hb : (mf t 1 0).1 with
 | false => exact Ev.ret _
 | true =>
  have := QL t 1 0 hb
  simp only [cond_true]
  rw [decide_eq_true (by omega)]
  exact Ev.ret _
end Abs
end Go.Proofs.YtiiaccpcoclklaaGreat
namespace Go.Proofs.YtiiaccpcoclklaaGreat
namespace Abs
open Go Go.Proofs Go.Deep Go.WideShapes
instance : Inhabited Tm := ⟨.mk 0 [] 0 (.mk 0 [] []) []⟩
theorem ajf : Tryz.prog.cellsOf 31 = 7 := by kernel_rfl
theorem avP : Tryz.prog.cellsOf 29 = 1 := by kernel_rfl
theorem Ut (t : Tm) : (aN t).length = 7 := by rw [aS]; rfl
section
variable {H : Type} {enc : TypeId × Value → H} {w : World} {base : Nat} {spare : Nat → Bool} {held : Bool} {κ : dL} {pv : iT}
set_option maxRecDepth 100000 in
theorem tK (hpv : ∀ b o, ¬ pv b o) (fuel : Nat) : Reads enc Tryz.prog w base spare held κ pv 31 aN fuel := by
 induction fuel using Nat.strongRecOn with
 | _ fuel ih =>
  intro cs x h
  obtain ⟨xs, n, rfl, _, hl, hlen, hf⟩ := DataW.trod_struct Tryz.underlying31 h
  rw [ajf] at hl
  match cs, hl with
  | [c0, c1, c2, c3, c4, c5, c6], _ =>
   obtain ⟨y0, e0⟩ := zS (i := 0) hlen (by decide)
   obtain ⟨y1, e1⟩ := zS (i := 1) hlen (by decide)
   obtain ⟨y2, e2⟩ := zS (i := 2) hlen (by decide)
   obtain ⟨y3, e3⟩ := zS (i := 3) hlen (by decide)
   obtain ⟨y4, e4⟩ := zS (i := 4) hlen (by decide)
   have h0 := hf 0 _ rfl
   have h1 := hf 1 _ rfl
   have h2 := hf 2 _ rfl
   have h3 := hf 3 _ rfl
   have h4 := hf 4 _ rfl
   simp only [e0, cl3, List.drop_zero, List.take_succ_cons, List.take_zero] at h0
   simp only [e1, cl9, List.drop_succ_cons, List.drop_zero, List.take_succ_cons, List.take_zero] at h1
   simp only [e2, cl3, List.drop_succ_cons, List.drop_zero, List.take_succ_cons, List.take_zero] at h2
   simp only [e3, al4, List.drop_succ_cons, List.drop_zero, List.take_succ_cons, List.take_zero] at h3
   simp only [e4, avP, List.drop_succ_cons, List.drop_zero, List.take_succ_cons, List.take_zero] at h4
   obtain ⟨k, hk⟩ := IQ (κ := κ) (pv := pv) Tryz.underlying3 n _ _ h0
   obtain ⟨nm, hn⟩ := FP (κ := κ) (pv := pv) Tryz.underlying9 n _ _ h1
   obtain ⟨m, hm⟩ := IQ (κ := κ) (pv := pv) Tryz.underlying3 n _ _ h2
   obtain ⟨t, ht⟩ := LD hpv n _ _ h3
   obtain ⟨ks, hks⟩ := y8 (f := aN) Tryz.underlying29 ajf (by decide) Ut hpv (fun m hm => ih m (by omega)) _ _ h4
   refine ⟨.mk k nm m t ks, ?_⟩
   have := hk.app (hn.app (hm.app (ht.app hks)))
   rw [aR] at this
   rw [aS]
   exact this
end
theorem akJ : ∀ {ts : List Tm}, (∀ t ∈ ts, gu t) → Fj ts
 | [], _ => trivial
 | t :: ts, h => by
  simp only [Fj]
  exact ⟨h t (List.mem_cons_self ..), akJ fun u hu => h u (List.mem_cons_of_mem _ hu)⟩
theorem anl {w : World} {κ : dL} {pv : iT} {ts : List Tm} {u : Value} (ih : ∀ t ∈ ts, ∀ f : Nat → Value, (∀ j, j < 7 → Rel w κ pv ((aN t).getD j .unk) (f j)) → gu t) (h : Rel w κ pv (.slice (ts.map aN) .shared) u) : ∀ t ∈ ts, gu t := by
 intro t ht
 obtain ⟨i, hi, rfl⟩ := List.mem_iff_getElem.1 ht
 cases h with
 | slice b off sz f h1 h2 h3 h3' h4 h5 h6 _ =>
  have hi' : i < (ts.map aN).length := by simpa using hi
  have eg : (ts.map aN).getD i [] = aN ts[i] := by simp [List.getD, List.getElem?_map, List.getElem?_eq_getElem hi]
  have hsz := h1 i hi'
  rw [eg, Ut] at hsz
  refine ih _ (List.getElem_mem hi) (f i) fun j hj => ?_
  have := h6 i j hi' (by omega)
  rw [eg] at this
  exact this
theorem P6 {w : World} {κ : dL} {pv : iT} : ∀ t : Tm, ∀ f : Nat → Value, (∀ j, j < 7 → Rel w κ pv ((aN t).getD j .unk) (f j)) → gu t := Tm.ind fun op nm m ty ks ih f h => by
 have h1 := h 1 (by decide)
 have h6 := h 6 (by decide)
 rw [aS] at h1 h6
 simp only [gu]
 refine ⟨?_, akJ (anl ih h6)⟩
 have h1' : Rel w κ pv (.str nm) (f 1) := h1
 generalize f 1 = g at h1'
 cases h1'
 assumption
theorem yX {t : Tm} {w : World} {κ : dL} {pv : iT} {v : Value} (h : Rel w κ pv (.agg (aN t)) v) : gu t := by
 cases h with
 | @agg _ vs hl hj => exact P6 t (fun j => vs.getD j undef) fun j h => hj j (by rw [Ut]; exact h)
end Abs
end Go.Proofs.YtiiaccpcoclklaaGreat
namespace Go.Proofs.YtiiaccpcoclklaaGreat
namespace Abs
open Go
def dK : Ty := .mk 2 [] []
def iD : Ty := .mk 1 [] []
def dD (a b : Ty) : Ty := .mk 4 [] [a, b]
inductive Good : Ty → Prop where
 | int : Good iD
 | car (nm : Str) : Good (zh nm)
 | pair {a b : Ty} : Good a → Good b → Good (dD a b)
 | set {a : Ty} : Good a → Good (bA a)
def Top (t : Ty) : Prop := t = dK ∨ Good t
mutual
theorem ar9 : ∀ (t : Ty) (d c : Int), 1 < d → (pf t d c).1 = true → Good t
 | .mk k nm ks, d, c, hd, h => by
  simp only [pf] at h
  cases hb : ((decide (c + 1 ≤ 16) && decide (d ≤ 6)) && fV k nm ks.length d) with
  | false => rw [hb] at h; cases h
  | true =>
   rw [hb] at h
   simp only [cond_true] at h
   have hk := Zk ks (d + 1) (c + 1) (by omega) h
   simp only [Bool.and_eq_true, fV, decide_eq_true_eq, Bool.or_eq_true, beq_iff_eq, Bool.not_eq_true', Bool.and_eq_false_iff, beq_eq_false_iff_ne, decide_eq_false_iff_not] at hb
   obtain ⟨_, h2, h3, h4⟩ := hb
   have hk2 : k ≠ 2 := by rcases h2 with h2 | h2 <;> omega
   rcases h3 with ⟨h5, h6⟩ | ⟨h5, h6⟩ | ⟨h5, h6⟩
   ·have hks : ks = [] := List.length_eq_zero_iff.1 h6
    subst hks
    rcases h5 with rfl | rfl | rfl
    ·have : nm = [] := by simpa using h4
     subst this; exact .int
    ·exact absurd rfl hk2
    ·exact .car nm
   ·subst h5
    have : nm = [] := by simpa using h4
    subst this
    match ks, h6, hk with
    | [a, b], _, hk => exact .pair (hk a (by simp)) (hk b (by simp))
   ·subst h5
    have : nm = [] := by simpa using h4
    subst this
    match ks, h6, hk with
    | [a], _, hk => exact .set (hk a (by simp))
theorem Zk : ∀ (ts : List Ty) (d c : Int), 1 < d → (jY ts d c).1 = true → ∀ t ∈ ts, Good t
 | [], _, _, _, _, t, ht => by cases ht
 | u :: ts, d, c, hd, h, t, ht => by
  simp only [jY] at h
  cases hb : (pf u d c).1 with
  | false => rw [hb] at h; cases h
  | true =>
   rw [hb] at h
   rcases List.mem_cons.1 ht with he | ht
   ·rw [he]; exact ar9 u d c hd hb
   ·exact Zk ts d _ hd h t ht
end
theorem Sz {t : Ty} (h : bR t = true) : Top t := by
 obtain ⟨k, nm, ks⟩ := t
 unfold bR at h
 simp only [pf] at h
 cases hb : ((decide ((0 : Int) + 1 ≤ 16) && decide ((1 : Int) ≤ 6)) && fV k nm ks.length 1) with
 | false => rw [hb] at h; cases h
 | true =>
  rw [hb] at h
  simp only [cond_true] at h
  have hk := Zk ks (1 + 1) (0 + 1) (by omega) h
  simp only [Bool.and_eq_true, fV, decide_eq_true_eq, Bool.or_eq_true, beq_iff_eq, Bool.not_eq_true', Bool.and_eq_false_iff, beq_eq_false_iff_ne, decide_eq_false_iff_not] at hb
  obtain ⟨_, _, h3, h4⟩ := hb
  rcases h3 with ⟨h5, h6⟩ | ⟨h5, h6⟩ | ⟨h5, h6⟩
  ·have hks : ks = [] := List.length_eq_zero_iff.1 h6
   subst hks
   rcases h5 with rfl | rfl | rfl
   ·have : nm = [] := by simpa using h4
    subst this; exact .inr .int
   ·have : nm = [] := by simpa using h4
    subst this; exact .inl rfl
   ·exact .inr (.car nm)
  ·subst h5
   have : nm = [] := by simpa using h4
   subst this
   match ks, h6, hk with
   | [a, b], _, hk => exact .inr (.pair (hk a (by simp)) (hk b (by simp)))
  ·subst h5
   have : nm = [] := by simpa using h4
   subst this
   match ks, h6, hk with
   | [a], _, hk => exact .inr (.set (hk a (by simp)))
theorem asE {t : Ty} (h : Good t) : FY t = true := by
 induction h with
 | int => rfl
 | car nm => rfl
 | pair _ _ h1 h2 => simp [dD, FY, NK, h1, h2]
 | set _ h1 => simp [bA, FY, NK, h1]
theorem aoC {t : Ty} (h : Top t) : FY t = true := by
 rcases h with rfl | h
 ·rfl
 ·exact asE h
def cu (t : Ty) : Option Ty := cond (t.kind == 5) t.kids.head? none
def gJ (t : Ty) : Option (Ty × Ty) := (cu t).bind fun p => cond (p.kind == 4) (p.kids.head?.bind fun a => (p.kids.drop 1).head?.map fun b => (a, b)) none
theorem H9 (a : Ty) : cu (bA a) = some a := rfl
theorem ajp (a b : Ty) : gJ (bA (dD a b)) = some (a, b) := rfl
theorem Cm {t : Ty} (h : Top t) : (∃ e, t = bA e ∧ Good e) ∨ ((t.kind == 5) = false ∧ cu t = none ∧ gJ t = none) := by
 rcases h with rfl | h
 ·exact .inr ⟨rfl, rfl, rfl⟩
 ·cases h with
  | int => exact .inr ⟨rfl, rfl, rfl⟩
  | car nm => exact .inr ⟨rfl, rfl, rfl⟩
  | pair _ _ => exact .inr ⟨rfl, rfl, rfl⟩
  | set h => exact .inl ⟨_, rfl, h⟩
theorem an5 {t : Ty} (h : Top t) : (∃ a b, t = bA (dD a b) ∧ Good a ∧ Good b) ∨ gJ t = none := by
 rcases Cm h with ⟨e, rfl, he⟩ | ⟨_, _, h⟩
 ·cases he with
  | int => exact .inr rfl
  | car nm => exact .inr rfl
  | pair h1 h2 => exact .inl ⟨_, _, rfl, h1, h2⟩
  | set h => exact .inr rfl
 ·exact .inr h
theorem qD {t e : Ty} (h : Top t) (he : cu t = some e) : Good e ∧ t = bA e := by
 rcases Cm h with ⟨e', rfl, hg⟩ | ⟨_, h, _⟩
 ·rw [H9] at he; cases he; exact ⟨hg, rfl⟩
 ·rw [h] at he; cases he
theorem rY {t a b : Ty} (h : Top t) (he : gJ t = some (a, b)) : Good a ∧ Good b ∧ t = bA (dD a b) := by
 rcases an5 h with ⟨a', b', rfl, hg⟩ | h
 ·rw [ajp] at he; cases he; exact ⟨hg.1, hg.2, rfl⟩
 ·rw [h] at he; cases he
def elP (o : Option Ty) : Ty × Bool := match o with | some e => (e, true) | none => (bg, false)
def siP (o : Option (Ty × Ty)) : Ty × Ty × Bool := match o with | some e => (e.1, e.2, true) | none => (bg, bg, false)
theorem jX (n : Nat) {t : Ty} (h : Top t) : dW n t = some (elP (cu t)) := by
 rcases Cm h with ⟨e, rfl, _⟩ | ⟨h1, h2, _⟩
 ·rfl
 ·unfold dW
  rw [h2, bne, h1]
  rfl
theorem yY (n : Nat) {t : Ty} (h : Top t) : jQ n t = some (siP (gJ t)) := by
 unfold jQ
 rw [jX n h]
 rcases Cm h with ⟨e, rfl, he⟩ | ⟨_, h2, h3⟩
 ·cases he <;> rfl
 ·rw [h2, h3]; rfl
def bY (b : Bool) (t : Ty) : Option Ty := cond b (some t) none
def zw (q : Int) (l : List Ty) : Bool := l.all fun x => x.kind == q
def mD (op : Int) (l : List Ty) : Option Ty :=
 let a := l.headD bg
 let b := (l.drop 1).headD bg
 cond (decide (op ≤ 2)) (some dK) <|
 cond (decide (op ≤ 7)) (bY (zw 2 l) dK) <|
 cond (decide (op ≤ 9)) (bY ((cu a).isSome && b.kind == 2) dK) <|
 cond (decide (op ≤ 11)) (bY (a.kind != 2 && bV a b) dK) <|
 cond (decide (op ≤ 15)) (bY (zw 1 l) dK) <|
 cond (decide (op ≤ 17)) ((cu b).bind fun e => bY (bV a e) dK) <|
 cond (decide (op ≤ 18)) (bY ((cu a).isSome && bV a b) dK) <|
 cond (decide (op ≤ 19)) (some iD) <|
 cond (decide (op ≤ 26)) (bY (zw 1 l) iD) <|
 cond (decide (op ≤ 27)) (bY (a.kind != 2 && b.kind != 2) (dD a b)) <|
 cond (decide (op ≤ 28)) (bY (a.kind != 2 && l.all fun x => bV x a) (bA a)) <|
 cond (decide (op ≤ 30)) (bY (zw 1 l) (bA iD)) <|
 cond (decide (op ≤ 33)) (bY ((cu a).isSome && bV a b) a) <|
 cond (decide (op ≤ 34)) ((cu a).bind fun x => (cu b).map fun y => bA (dD x y)) <|
 cond (decide (op ≤ 35)) (bY ((gJ a).isSome && bV a b) a) <|
 cond (decide (op ≤ 36)) ((gJ a).bind fun x => (gJ b).bind fun y => bY (bV x.2 y.1) (bA (dD x.1 y.2))) <|
 cond (decide (op ≤ 38)) ((cu a).bind fun x => (gJ b).bind fun y => bY (bV x y.1) b) <|
 cond (decide (op ≤ 40)) ((gJ a).bind fun x => (cu b).bind fun y => bY (bV y x.2) a) <|
 cond (decide (op ≤ 45)) ((cu a).bind fun x => (cu b).map fun y => bA (bA (dD x y))) <|
 cond (decide (op ≤ 46)) ((cu a).map fun x => bA (bA x)) <|
 cond (decide (op ≤ 47)) ((cu a).map fun _ => iD) <|
 cond (decide (op ≤ 49)) ((cu a).bind fun x => bY (x.kind == 1) iD) <|
 cond (decide (op ≤ 50)) ((gJ a).map fun x => bA x.1) <|
 cond (decide (op ≤ 51)) ((gJ a).map fun x => bA x.2) <|
 cond (decide (op ≤ 52)) ((gJ a).map fun x => bA (dD x.2 x.1)) <|
 cond (decide (op ≤ 53)) ((gJ a).bind fun x => (cu b).bind fun y => bY (bV y x.1) (bA x.2)) <|
 cond (decide (op ≤ 54)) ((gJ a).bind fun x => bY (bV b x.1) x.2) <|
 cond (decide (op ≤ 55)) (bY ((cu a).isSome && b.kind == 2) a) <|
 (cu a).bind fun x => bY (b.kind != 2) (bA (dD x b))
def arB (r : Ty × Bool) (o : Option Ty) : Prop := match o with | some t => r = (t, true) | none => r.2 = false
def Row (f : Nat → Option (Ty × Bool)) (o : Option Ty) : Prop := ∃ r, Ev f r ∧ arB r o
theorem Row.of {f : Nat → Option (Ty × Bool)} {o : Option Ty} (t : Ty) (b : Bool) (h : Ev f (t, b)) (he : o = bY b t) : Row f o := by
 subst he
 cases b
 ·exact ⟨_, h, rfl⟩
 ·exact ⟨_, h, rfl⟩
theorem Row.no {f : Nat → Option (Ty × Bool)} {o : Option Ty} (t : Ty) (h : Ev f (t, false)) (he : o = none) : Row f o := .of t false h he
theorem Row.yes {f : Nat → Option (Ty × Bool)} {o : Option Ty} (t : Ty) (h : Ev f (t, true)) (he : o = some t) : Row f o := .of t true h he
end Abs
end Go.Proofs.YtiiaccpcoclklaaGreat
namespace Go.Proofs.YtiiaccpcoclklaaGreat
namespace Abs
open Go
theorem gI {α : Type} (a : α) (l : List α) : idx (a :: l) 0 = some a := rfl
theorem kE {α : Type} (a b : α) (l : List α) : idx (a :: b :: l) 1 = some b := rfl
theorem pQ (t : Ty) : Ty.mk t.kind t.name t.kids = t := by cases t; rfl
theorem aip (a b : Ty) : bV a b = true ↔ a = b := ⟨zy a b, fun h => h ▸ FB a⟩
theorem ao6 (a b : Ty) : bV a b = bV b a := by
 rw [Bool.eq_iff_iff, aip, aip]
 exact ⟨Eq.symm, Eq.symm⟩
theorem avv {t : Ty} (h : Top t) : (t.kind == 5) = (cu t).isSome := by
 rcases h with rfl | h
 ·rfl
 ·cases h <;> rfl
theorem oI (l : List Ty) (k : Int) (nm : Str) (ks : List Ty) (q : Int) : Row (fun n => bU n l k nm ks q) (bY (zw q l) (.mk k nm ks)) := by
 unfold bU pW sM
 refine Row.of (.mk k nm ks) (zw q l) ?_ rfl
 refine Ev.bind (a := l.any fun x => x.kind != q) (Ev.bind (xu l (fun n k i => l6 n l q k i) (fun _ x => some (x.kind != q)) (fun x => x.kind != q) (fun n k i => rfl) (fun x _ => Ev.ret _)) ?_) ?_
 ·rw [Av _ _ _ (Int.le_refl _)]
  exact Ev.ret _
 ·have : (!(l.any fun x => x.kind != q)) = zw q l := by
   unfold zw
   rw [show (fun x : Ty => x.kind != q) = fun x => !(x.kind == q) from rfl, rU, Bool.not_not]
  rw [this]
  exact Ev.ret _
theorem aix (a : Ty) (l : List Ty) : Ev (fun n => nV n (a :: l)) (a.kind != 2 && (a :: l).all fun x => bV x a) := by
 unfold nV pX sJ
 simp only [gI, Option.bind_some]
 refine Ev.bind (a := a.kind != 2 && (a :: l).all fun x => bV x a) ?_ (Ev.ret _)
 cases a.kind != 2 with
 | false => exact Ev.ret _
 | true =>
  simp only [cond_true, Bool.true_and]
  refine Ev.bind (a := (a :: l).any fun x => !(bV x a)) (Ev.bind (xu (a :: l) (fun n k i => mo n (a :: l) (a :: l) k i) (fun n x => z8 n x (a :: l)) (fun x => !(bV x a)) (fun n k i => rfl) (fun x _ => ?_)) ?_) ?_
  ·unfold z8
   simp only [gI, Option.bind_some]
   exact Ev.bind (Aw x a) (Ev.ret _)
  ·rw [Av _ _ _ (Int.le_refl _)]
   exact Ev.ret _
  ·rw [rU, Bool.not_not]
   exact Ev.ret _
theorem MJ (a b : Ty) : Ev (fun n => nV n [a, b]) (a.kind != 2 && bV a b) := by
 have := aix a [b]
 simp only [List.all_cons, List.all_nil, Bool.and_true, FB, Bool.true_and] at this
 rwa [ao6 b a] at this
section
variable {a b : Ty} (ha : Top a) (hb : Top b)
theorem agF (hs : (cu a).isSome = true) : Row (fun n => rR n [a, b]) (bY ((cu a).isSome && b.kind == 2) dK) := by
 rw [hs]
 exact Row.of dK (b.kind == 2) (Ev.ret _) rfl
theorem aon (hs : (cu a).isSome = true) : Row (fun n => yK n [a, b]) (bY ((cu a).isSome && b.kind == 2) a) := by
 rw [hs]
 exact Row.of a (b.kind == 2) (Ev.ret _) rfl
theorem ahH : Row (fun n => vC n [a, b]) (bY (a.kind != 2 && bV a b) dK) :=
 Row.of dK _ (Ev.bind (MJ a b) (Ev.ret _)) rfl
include hb in
theorem abv : Row (fun n => sw n [a, b]) ((cu b).bind fun e => bY (bV a e) dK) := by
 unfold sw
 simp only [gI, kE, Option.bind_some, jX _ hb]
 cases cu b with
 | none => exact .no dK (Ev.ret _) rfl
 | some e => exact .of dK (bV a e) (Ev.bind (Ev.bind (Aw a e) (Ev.ret _)) (Ev.ret _)) rfl
include ha in
theorem ahQ : (a.kind == 5 && (a.kind != 2 && bV a b)) = ((cu a).isSome && bV a b) := by
 rw [avv ha]
 cases hs : cu a with
 | none => rfl
 | some e => obtain ⟨_, rfl⟩ := qD ha hs; rfl
include ha in
theorem anL : Row (fun n => vw n [a, b]) (bY ((cu a).isSome && bV a b) dK) := by
 rw [← ahQ ha]
 unfold vw
 simp only [gI, Option.bind_some]
 refine .of dK _ (Ev.bind (a := a.kind == 5 && (a.kind != 2 && bV a b)) ?_ (Ev.ret _)) rfl
 cases a.kind == 5 with
 | false => exact Ev.ret _
 | true => exact Ev.bind (MJ a b) (Ev.ret _)
include ha in
theorem TQ : Row (fun n => kW n [a, b]) (bY ((cu a).isSome && bV a b) a) := by
 rw [← ahQ ha]
 unfold kW
 simp only [gI, Option.bind_some]
 refine .of a _ (Ev.bind (a := (a.kind == 5 && (a.kind != 2 && bV a b), a.kind, a.name, a.kids)) ?_ (by simp only [pQ]; exact Ev.ret _)) rfl
 cases a.kind == 5 with
 | false => exact Ev.ret _
 | true => exact Ev.bind (MJ a b) (Ev.ret _)
theorem aqn : Row (fun n => xL n [a, b]) (bY (a.kind != 2 && b.kind != 2) (dD a b)) := by
 unfold xL
 simp only [gI, kE, Option.bind_some]
 cases a.kind != 2 with
 | false => exact .no (dD a b) (Ev.ret _) rfl
 | true => exact .of (dD a b) (b.kind != 2) (Ev.ret _) rfl
theorem asf (l : List Ty) : Row (fun n => xO n (a :: l)) (bY (a.kind != 2 && (a :: l).all fun x => bV x a) (bA a)) := by
 unfold xO
 simp only [gI, Option.bind_some]
 exact .of (bA a) _ (Ev.bind (aix a l) (Ev.ret _)) rfl
include ha hb in
theorem aqZ : Row (fun n => wJ n [a, b]) ((cu a).bind fun x => (cu b).map fun y => bA (dD x y)) := by
 unfold wJ
 simp only [gI, kE, Option.bind_some, jX _ ha, jX _ hb]
 cases cu a with
 | none => exact .no bg (Ev.ret _) rfl
 | some x =>
  cases cu b with
  | none => exact .no bg (Ev.ret _) rfl
  | some y => exact .yes (bA (dD x y)) (Ev.ret _) rfl
include ha hb in
theorem LG : Row (fun n => iI n [a, b]) ((cu a).bind fun x => (cu b).map fun y => bA (bA (dD x y))) := by
 unfold iI
 simp only [gI, kE, Option.bind_some, jX _ ha, jX _ hb]
 cases cu a with
 | none => exact .no bg (Ev.ret _) rfl
 | some x =>
  cases cu b with
  | none => exact .no bg (Ev.ret _) rfl
  | some y => exact .yes (bA (bA (dD x y))) (Ev.ret _) rfl
include ha in
theorem aqB : Row (fun n => nC n [a, b]) (bY ((gJ a).isSome && bV a b) a) := by
 unfold nC
 simp only [gI, Option.bind_some, yY _ ha]
 cases hr : gJ a with
 | none => exact .no bg (Ev.ret _) rfl
 | some x =>
  obtain ⟨x, y⟩ := x
  obtain ⟨_, _, rfl⟩ := rY ha hr
  refine .of _ (bV (bA (dD x y)) b) (Ev.bind (a := (bA (dD x y), bV (bA (dD x y)) b)) ?_ (Ev.ret _)) rfl
  show Ev (fun n => (nV n [bA (dD x y), b]).bind fun x2 => some (bA (dD x y), x2)) _
  exact Ev.bind (MJ (bA (dD x y)) b) (Ev.ret _)
include ha hb in
theorem aqf : Row (fun n => nE n [a, b]) ((gJ a).bind fun x => (gJ b).bind fun y => bY (bV x.2 y.1) (bA (dD x.1 y.2))) := by
 unfold nE EL
 simp only [gI, kE, Option.bind_some, yY _ ha, yY _ hb]
 cases gJ a with
 | none => exact .no bg (Ev.ret _) rfl
 | some x =>
  cases gJ b with
  | none => exact .no (bA (dD x.1 bg)) (Ev.ret _) rfl
  | some y => exact .of (bA (dD x.1 y.2)) (bV x.2 y.1) (Ev.bind (Ev.bind (Ev.bind (Aw x.2 y.1) (Ev.ret _)) (Ev.ret _)) (Ev.ret _)) rfl
include ha hb in
theorem ajw : Row (fun n => sH n [a, b]) ((cu a).bind fun x => (gJ b).bind fun y => bY (bV x y.1) b) := by
 unfold sH
 simp only [gI, kE, Option.bind_some, jX _ ha, yY _ hb]
 cases cu a with
 | none => exact .no b (by simp only [elP, cond_false, Option.bind_some, pQ]; exact Ev.ret _) rfl
 | some x =>
  cases gJ b with
  | none => exact .no b (by simp only [elP, siP, cond_true, cond_false, Option.bind_some, pQ]; exact Ev.ret _) rfl
  | some y =>
   refine .of b (bV x y.1) ?_ rfl
   simp only [elP, siP, cond_true]
   exact Ev.bind (a := (bV x y.1, b.kind, b.name, b.kids)) (Ev.bind (Aw x y.1) (Ev.ret _)) (by simp only [pQ]; exact Ev.ret _)
include ha hb in
theorem ai9 : Row (fun n => jw n [a, b]) ((gJ a).bind fun x => (cu b).bind fun y => bY (bV y x.2) a) := by
 unfold jw EU
 simp only [gI, kE, Option.bind_some, jX _ hb, yY _ ha]
 cases gJ a with
 | none => exact .no bg (Ev.ret _) rfl
 | some x =>
  cases cu b with
  | none => exact .no a (by simp only [elP, siP, cond_false, Option.bind_some, pQ, Bool.not_true]; exact Ev.ret _) rfl
  | some y =>
   refine .of a (bV y x.2) ?_ rfl
   simp only [elP, siP, cond_true, Bool.not_true, cond_false]
   exact Ev.bind (a := (a, bV y x.2)) (Ev.bind (a := (bV y x.2, a.kind, a.name, a.kids)) (Ev.bind (Aw y x.2) (Ev.ret _)) (by simp only [pQ]; exact Ev.ret _)) (Ev.ret _)
include ha in
theorem asL : Row (fun n => tq n [a]) ((cu a).map fun x => bA (bA x)) := by
 unfold tq
 simp only [gI, Option.bind_some, jX _ ha]
 cases cu a with
 | none => exact .no bg (Ev.ret _) rfl
 | some x => exact .yes (bA (bA x)) (Ev.ret _) rfl
include ha in
theorem ap1 : Row (fun n => tJ n [a]) ((cu a).map fun _ => iD) := by
 unfold tJ
 simp only [gI, Option.bind_some, jX _ ha]
 cases cu a with
 | none => exact .no bg (Ev.ret _) rfl
 | some x => exact .yes iD (Ev.ret _) rfl
include ha in
theorem alC : Row (fun n => nQ n [a]) ((cu a).bind fun x => bY (x.kind == 1) iD) := by
 unfold nQ
 simp only [gI, Option.bind_some, jX _ ha]
 cases cu a with
 | none => exact .no bg (Ev.ret _) rfl
 | some x => exact .of iD (x.kind == 1) (Ev.ret _) rfl
include ha in
theorem as6 : Row (fun n => nA n [a]) ((gJ a).map fun x => bA x.1) := by
 unfold nA
 simp only [gI, Option.bind_some, yY _ ha]
 cases gJ a with
 | none => exact .no bg (Ev.ret _) rfl
 | some x => exact .yes (bA x.1) (Ev.ret _) rfl
include ha in
theorem asu : Row (fun n => ny n [a]) ((gJ a).map fun x => bA x.2) := by
 unfold ny
 simp only [gI, Option.bind_some, yY _ ha]
 cases gJ a with
 | none => exact .no bg (Ev.ret _) rfl
 | some x => exact .yes (bA x.2) (Ev.ret _) rfl
include ha in
theorem asA : Row (fun n => nG n [a]) ((gJ a).map fun x => bA (dD x.2 x.1)) := by
 unfold nG
 simp only [gI, Option.bind_some, yY _ ha]
 cases gJ a with
 | none => exact .no bg (Ev.ret _) rfl
 | some x => exact .yes (bA (dD x.2 x.1)) (Ev.ret _) rfl
include ha hb in
theorem anp : Row (fun n => nD n [a, b]) ((gJ a).bind fun x => (cu b).bind fun y => bY (bV y x.1) (bA x.2)) := by
 unfold nD DK
 simp only [gI, kE, Option.bind_some, jX _ hb, yY _ ha]
 cases gJ a with
 | none => exact .no bg (Ev.ret _) rfl
 | some x =>
  cases cu b with
  | none => exact .no (bA x.2) (Ev.ret _) rfl
  | some y => exact .of (bA x.2) (bV y x.1) (Ev.bind (Ev.bind (Ev.bind (Aw y x.1) (Ev.ret _)) (Ev.ret _)) (Ev.ret _)) rfl
include ha in
theorem anm : Row (fun n => nH n [a, b]) ((gJ a).bind fun x => bY (bV b x.1) x.2) := by
 unfold nH Dr
 simp only [gI, kE, Option.bind_some, yY _ ha]
 cases gJ a with
 | none => exact .no bg (Ev.ret _) rfl
 | some x => exact .of x.2 (bV b x.1) (Ev.bind (Ev.bind (Aw b x.1) (Ev.ret _)) (Ev.ret _)) rfl
include ha in
theorem asi : Row (fun n => wK n [a, b]) ((cu a).bind fun x => bY (b.kind != 2) (bA (dD x b))) := by
 unfold wK
 simp only [gI, kE, Option.bind_some, jX _ ha]
 cases cu a with
 | none => exact .no (bA (dD bg b)) (Ev.ret _) rfl
 | some x => exact .of (bA (dD x b)) (b.kind != 2) (Ev.ret _) rfl
end
def aud (f : Nat → Option (Bool × Int × Str × (List Ty))) (o : Option Ty) : Prop := ∃ r, Ev f r ∧ (match o with | some t => r = (true, t.kind, t.name, t.kids) | none => r.1 = false)
theorem Row.c {f : Nat → Option (Ty × Bool)} {o : Option Ty} (h : Row f o) : aud (fun n => (f n).bind fun x => some (x.2, x.1.kind, x.1.name, x.1.kids)) o := by
 obtain ⟨r, h1, h2⟩ := h
 refine ⟨_, Ev.bind h1 (Ev.ret _), ?_⟩
 cases o with
 | none => exact h2
 | some t => have h2 : r = (t, true) := h2; subst h2; rfl
def apj (n : Nat) (op : Int) (l : List Ty) : Option (Bool × Int × Str × (List Ty)) := (cond (op == 0) none (cond (op == 1) (some (((Ty.mk 2 ([] : Str) ([])), true).2, (((Ty.mk 2 ([] : Str) ([])), true).1).kind, (((Ty.mk 2 ([] : Str) ([])), true).1).name, (((Ty.mk 2 ([] : Str) ([])), true).1).kids)) (cond (op == 2) (some (((Ty.mk 2 ([] : Str) ([])), true).2, (((Ty.mk 2 ([] : Str) ([])), true).1).kind, (((Ty.mk 2 ([] : Str) ([])), true).1).name, (((Ty.mk 2 ([] : Str) ([])), true).1).kids)) (cond (op == 3) ((bU n l 2 ([] : Str) ([]) 2).bind fun (x6 : Ty × Bool) => some (x6.2, x6.1.kind, x6.1.name, x6.1.kids)) (cond (op == 4) ((bU n l 2 ([] : Str) ([]) 2).bind fun (x7 : Ty × Bool) => some (x7.2, x7.1.kind, x7.1.name, x7.1.kids)) (cond (op == 5) ((bU n l 2 ([] : Str) ([]) 2).bind fun (x8 : Ty × Bool) => some (x8.2, x8.1.kind, x8.1.name, x8.1.kids)) (cond (op == 6) ((bU n l 2 ([] : Str) ([]) 2).bind fun (x9 : Ty × Bool) => some (x9.2, x9.1.kind, x9.1.name, x9.1.kids)) (cond (op == 7) ((bU n l 2 ([] : Str) ([]) 2).bind fun (x10 : Ty × Bool) => some (x10.2, x10.1.kind, x10.1.name, x10.1.kids)) (cond (op == 8) ((rR n l).bind fun (x11 : Ty × Bool) => some (x11.2, x11.1.kind, x11.1.name, x11.1.kids)) (cond (op == 9) ((rR n l).bind fun (x12 : Ty × Bool) => some (x12.2, x12.1.kind, x12.1.name, x12.1.kids)) (cond (op == 10) ((vC n l).bind fun (x13 : Ty × Bool) => some (x13.2, x13.1.kind, x13.1.name, x13.1.kids)) (cond (op == 11) ((vC n l).bind fun (x14 : Ty × Bool) => some (x14.2, x14.1.kind, x14.1.name, x14.1.kids)) (cond (op == 12) ((bU n l 2 ([] : Str) ([]) 1).bind fun (x15 : Ty × Bool) => some (x15.2, x15.1.kind, x15.1.name, x15.1.kids)) (cond (op == 13) ((bU n l 2 ([] : Str) ([]) 1).bind fun (x16 : Ty × Bool) => some (x16.2, x16.1.kind, x16.1.name, x16.1.kids)) (cond (op == 14) ((bU n l 2 ([] : Str) ([]) 1).bind fun (x17 : Ty × Bool) => some (x17.2, x17.1.kind, x17.1.name, x17.1.kids)) (cond (op == 15) ((bU n l 2 ([] : Str) ([]) 1).bind fun (x18 : Ty × Bool) => some (x18.2, x18.1.kind, x18.1.name, x18.1.kids)) (cond (op == 16) ((sw n l).bind fun (x19 : Ty × Bool) => some (x19.2, x19.1.kind, x19.1.name, x19.1.kids)) (cond (op == 17) ((sw n l).bind fun (x20 : Ty × Bool) => some (x20.2, x20.1.kind, x20.1.name, x20.1.kids)) (cond (op == 18) ((vw n l).bind fun (x21 : Ty × Bool) => some (x21.2, x21.1.kind, x21.1.name, x21.1.kids)) (cond (op == 19) (some (((Ty.mk 1 ([] : Str) ([])), true).2, (((Ty.mk 1 ([] : Str) ([])), true).1).kind, (((Ty.mk 1 ([] : Str) ([])), true).1).name, (((Ty.mk 1 ([] : Str) ([])), true).1).kids)) (cond (op == 20) none (cond (op == 21) ((bU n l 1 ([] : Str) ([]) 1).bind fun (x22 : Ty × Bool) => some (x22.2, x22.1.kind, x22.1.name, x22.1.kids)) (cond (op == 22) ((bU n l 1 ([] : Str) ([]) 1).bind fun (x23 : Ty × Bool) => some (x23.2, x23.1.kind, x23.1.name, x23.1.kids)) (cond (op == 23) ((bU n l 1 ([] : Str) ([]) 1).bind fun (x24 : Ty × Bool) => some (x24.2, x24.1.kind, x24.1.name, x24.1.kids)) (cond (op == 24) ((bU n l 1 ([] : Str) ([]) 1).bind fun (x25 : Ty × Bool) => some (x25.2, x25.1.kind, x25.1.name, x25.1.kids)) (cond (op == 25) ((bU n l 1 ([] : Str) ([]) 1).bind fun (x26 : Ty × Bool) => some (x26.2, x26.1.kind, x26.1.name, x26.1.kids)) (cond (op == 26) ((bU n l 1 ([] : Str) ([]) 1).bind fun (x27 : Ty × Bool) => some (x27.2, x27.1.kind, x27.1.name, x27.1.kids)) (cond (op == 27) ((xL n l).bind fun (x28 : Ty × Bool) => some (x28.2, x28.1.kind, x28.1.name, x28.1.kids)) (cond (op == 28) ((xO n l).bind fun (x29 : Ty × Bool) => some (x29.2, x29.1.kind, x29.1.name, x29.1.kids)) (cond (op == 29) none (cond (op == 30) ((bU n l 5 ([] : Str) ([(Ty.mk 1 ([] : Str) ([]))]) 1).bind fun (x30 : Ty × Bool) => some (x30.2, x30.1.kind, x30.1.name, x30.1.kids)) (cond (op == 31) ((kW n l).bind fun (x31 : Ty × Bool) => some (x31.2, x31.1.kind, x31.1.name, x31.1.kids)) (cond (op == 32) ((kW n l).bind fun (x32 : Ty × Bool) => some (x32.2, x32.1.kind, x32.1.name, x32.1.kids)) (cond (op == 33) ((kW n l).bind fun (x33 : Ty × Bool) => some (x33.2, x33.1.kind, x33.1.name, x33.1.kids)) (cond (op == 34) ((wJ n l).bind fun (x34 : Ty × Bool) => some (x34.2, x34.1.kind, x34.1.name, x34.1.kids)) (cond (op == 35) ((nC n l).bind fun (x35 : Ty × Bool) => some (x35.2, x35.1.kind, x35.1.name, x35.1.kids)) (cond (op == 36) ((nE n l).bind fun (x36 : Ty × Bool) => some (x36.2, x36.1.kind, x36.1.name, x36.1.kids)) (cond (op == 37) ((sH n l).bind fun (x37 : Ty × Bool) => some (x37.2, x37.1.kind, x37.1.name, x37.1.kids)) (cond (op == 38) ((sH n l).bind fun (x38 : Ty × Bool) => some (x38.2, x38.1.kind, x38.1.name, x38.1.kids)) (cond (op == 39) ((jw n l).bind fun (x39 : Ty × Bool) => some (x39.2, x39.1.kind, x39.1.name, x39.1.kids)) (cond (op == 40) ((jw n l).bind fun (x40 : Ty × Bool) => some (x40.2, x40.1.kind, x40.1.name, x40.1.kids)) (cond (op == 41) ((iI n l).bind fun (x41 : Ty × Bool) => some (x41.2, x41.1.kind, x41.1.name, x41.1.kids)) (cond (op == 42) ((iI n l).bind fun (x42 : Ty × Bool) => some (x42.2, x42.1.kind, x42.1.name, x42.1.kids)) (cond (op == 43) ((iI n l).bind fun (x43 : Ty × Bool) => some (x43.2, x43.1.kind, x43.1.name, x43.1.kids)) (cond (op == 44) ((iI n l).bind fun (x44 : Ty × Bool) => some (x44.2, x44.1.kind, x44.1.name, x44.1.kids)) (cond (op == 45) ((iI n l).bind fun (x45 : Ty × Bool) => some (x45.2, x45.1.kind, x45.1.name, x45.1.kids)) (cond (op == 46) ((tq n l).bind fun (x46 : Ty × Bool) => some (x46.2, x46.1.kind, x46.1.name, x46.1.kids)) (cond (op == 47) ((tJ n l).bind fun (x47 : Ty × Bool) => some (x47.2, x47.1.kind, x47.1.name, x47.1.kids)) (cond (op == 48) ((nQ n l).bind fun (x48 : Ty × Bool) => some (x48.2, x48.1.kind, x48.1.name, x48.1.kids)) (cond (op == 49) ((nQ n l).bind fun (x49 : Ty × Bool) => some (x49.2, x49.1.kind, x49.1.name, x49.1.kids)) (cond (op == 50) ((nA n l).bind fun (x50 : Ty × Bool) => some (x50.2, x50.1.kind, x50.1.name, x50.1.kids)) (cond (op == 51) ((ny n l).bind fun (x51 : Ty × Bool) => some (x51.2, x51.1.kind, x51.1.name, x51.1.kids)) (cond (op == 52) ((nG n l).bind fun (x52 : Ty × Bool) => some (x52.2, x52.1.kind, x52.1.name, x52.1.kids)) (cond (op == 53) ((nD n l).bind fun (x53 : Ty × Bool) => some (x53.2, x53.1.kind, x53.1.name, x53.1.kids)) (cond (op == 54) ((nH n l).bind fun (x54 : Ty × Bool) => some (x54.2, x54.1.kind, x54.1.name, x54.1.kids)) (cond (op == 55) ((yK n l).bind fun (x55 : Ty × Bool) => some (x55.2, x55.1.kind, x55.1.name, x55.1.kids)) (cond (op == 56) ((wK n l).bind fun (x56 : Ty × Bool) => some (x56.2, x56.1.kind, x56.1.name, x56.1.kids)) none)))))))))))))))))))))))))))))))))))))))))))))))))))))))))
theorem Ko {op : Int} (h1 : 1 ≤ op) (h2 : op ≤ 56) : op = 1 ∨ op = 2 ∨ op = 3 ∨ op = 4 ∨ op = 5 ∨ op = 6 ∨ op = 7 ∨ op = 8 ∨ op = 9 ∨ op = 10 ∨ op = 11 ∨ op = 12 ∨ op = 13 ∨ op = 14 ∨ op = 15 ∨ op = 16 ∨ op = 17 ∨ op = 18 ∨ op = 19 ∨ op = 20 ∨ op = 21 ∨ op = 22 ∨ op = 23 ∨ op = 24 ∨ op = 25 ∨ op = 26 ∨ op = 27 ∨ op = 28 ∨ op = 29 ∨ op = 30 ∨ op = 31 ∨ op = 32 ∨ op = 33 ∨ op = 34 ∨ op = 35 ∨ op = 36 ∨ op = 37 ∨ op = 38 ∨ op = 39 ∨ op = 40 ∨ op = 41 ∨ op = 42 ∨ op = 43 ∨ op = 44 ∨ op = 45 ∨ op = 46 ∨ op = 47 ∨ op = 48 ∨ op = 49 ∨ op = 50 ∨ op = 51 ∨ op = 52 ∨ op = 53 ∨ op = 54 ∨ op = 55 ∨ op = 56 := by omega
theorem uI {α : Type} (l : List α) (h : (l.length : Int) = 1) : ∃ a, l = [a] := by
 match l, h with
 | [a], _ => exact ⟨a, rfl⟩
theorem dZ {α : Type} (l : List α) (h : (l.length : Int) = 2) : ∃ a b, l = [a, b] := by
 match l, h with
 | [a, b], _ => exact ⟨a, b, rfl⟩
theorem Kn {α : Type} (l : List α) (h : l ≠ []) : ∃ a m, l = a :: m := by
 match l, h with
 | a :: m, _ => exact ⟨a, m, rfl⟩
structure LenOk (op : Int) (l : List Ty) : Prop where
 one : dP op = 1 → (l.length : Int) = 1
 two : dP op = 2 → (l.length : Int) = 2
 some : dP op = -1 → l ≠ []
set_option maxRecDepth 100000 in
theorem ao0 {op : Int} (h1 : 1 ≤ op) (h2 : op ≤ 56) (h20 : op ≠ 20) (h29 : op ≠ 29) {l : List Ty} (hl : ∀ t ∈ l, Top t) (hn : LenOk op l) (hb : bE op = true → (cu (l.headD bg)).isSome = true) : aud (fun n => apj n op l) (mD op l) := by
 rcases Ko h1 h2 with rfl | rfl | rfl | rfl | rfl | rfl | rfl | rfl | rfl | rfl | rfl | rfl | rfl | rfl | rfl | rfl | rfl | rfl | rfl | rfl | rfl | rfl | rfl | rfl | rfl | rfl | rfl | rfl | rfl | rfl | rfl | rfl | rfl | rfl | rfl | rfl | rfl | rfl | rfl | rfl | rfl | rfl | rfl | rfl | rfl | rfl | rfl | rfl | rfl | rfl | rfl | rfl | rfl | rfl | rfl | rfl
 ·exact ⟨_, Ev.ret _, rfl⟩
 ·exact ⟨_, Ev.ret _, rfl⟩
 ·exact Row.c (oI l 2 [] [] 2)
 ·exact Row.c (oI l 2 [] [] 2)
 ·exact Row.c (oI l 2 [] [] 2)
 ·exact Row.c (oI l 2 [] [] 2)
 ·exact Row.c (oI l 2 [] [] 2)
 ·obtain ⟨a, b, rfl⟩ := dZ l (hn.two rfl); exact Row.c (agF (hb rfl))
 ·obtain ⟨a, b, rfl⟩ := dZ l (hn.two rfl); exact Row.c (agF (hb rfl))
 ·obtain ⟨a, b, rfl⟩ := dZ l (hn.two rfl); exact Row.c (ahH)
 ·obtain ⟨a, b, rfl⟩ := dZ l (hn.two rfl); exact Row.c (ahH)
 ·exact Row.c (oI l 2 [] [] 1)
 ·exact Row.c (oI l 2 [] [] 1)
 ·exact Row.c (oI l 2 [] [] 1)
 ·exact Row.c (oI l 2 [] [] 1)
 ·obtain ⟨a, b, rfl⟩ := dZ l (hn.two rfl); exact Row.c (abv (hl b (by simp)))
 ·obtain ⟨a, b, rfl⟩ := dZ l (hn.two rfl); exact Row.c (abv (hl b (by simp)))
 ·obtain ⟨a, b, rfl⟩ := dZ l (hn.two rfl); exact Row.c (anL (hl a (by simp)))
 ·exact ⟨_, Ev.ret _, rfl⟩
 ·exact absurd rfl h20
 ·exact Row.c (oI l 1 [] [] 1)
 ·exact Row.c (oI l 1 [] [] 1)
 ·exact Row.c (oI l 1 [] [] 1)
 ·exact Row.c (oI l 1 [] [] 1)
 ·exact Row.c (oI l 1 [] [] 1)
 ·exact Row.c (oI l 1 [] [] 1)
 ·obtain ⟨a, b, rfl⟩ := dZ l (hn.two rfl); exact Row.c (aqn)
 ·obtain ⟨a, l, rfl⟩ := Kn l (hn.some rfl); exact Row.c (asf l)
 ·exact absurd rfl h29
 ·exact Row.c (oI l 5 [] [iD] 1)
 ·obtain ⟨a, b, rfl⟩ := dZ l (hn.two rfl); exact Row.c (TQ (hl a (by simp)))
 ·obtain ⟨a, b, rfl⟩ := dZ l (hn.two rfl); exact Row.c (TQ (hl a (by simp)))
 ·obtain ⟨a, b, rfl⟩ := dZ l (hn.two rfl); exact Row.c (TQ (hl a (by simp)))
 ·obtain ⟨a, b, rfl⟩ := dZ l (hn.two rfl); exact Row.c (aqZ (hl a (by simp)) (hl b (by simp)))
 ·obtain ⟨a, b, rfl⟩ := dZ l (hn.two rfl); exact Row.c (aqB (hl a (by simp)))
 ·obtain ⟨a, b, rfl⟩ := dZ l (hn.two rfl); exact Row.c (aqf (hl a (by simp)) (hl b (by simp)))
 ·obtain ⟨a, b, rfl⟩ := dZ l (hn.two rfl); exact Row.c (ajw (hl a (by simp)) (hl b (by simp)))
 ·obtain ⟨a, b, rfl⟩ := dZ l (hn.two rfl); exact Row.c (ajw (hl a (by simp)) (hl b (by simp)))
 ·obtain ⟨a, b, rfl⟩ := dZ l (hn.two rfl); exact Row.c (ai9 (hl a (by simp)) (hl b (by simp)))
 ·obtain ⟨a, b, rfl⟩ := dZ l (hn.two rfl); exact Row.c (ai9 (hl a (by simp)) (hl b (by simp)))
 ·obtain ⟨a, b, rfl⟩ := dZ l (hn.two rfl); exact Row.c (LG (hl a (by simp)) (hl b (by simp)))
 ·obtain ⟨a, b, rfl⟩ := dZ l (hn.two rfl); exact Row.c (LG (hl a (by simp)) (hl b (by simp)))
 ·obtain ⟨a, b, rfl⟩ := dZ l (hn.two rfl); exact Row.c (LG (hl a (by simp)) (hl b (by simp)))
 ·obtain ⟨a, b, rfl⟩ := dZ l (hn.two rfl); exact Row.c (LG (hl a (by simp)) (hl b (by simp)))
 ·obtain ⟨a, b, rfl⟩ := dZ l (hn.two rfl); exact Row.c (LG (hl a (by simp)) (hl b (by simp)))
 ·obtain ⟨a, rfl⟩ := uI l (hn.one rfl); exact Row.c (asL (hl a (by simp)))
 ·obtain ⟨a, rfl⟩ := uI l (hn.one rfl); exact Row.c (ap1 (hl a (by simp)))
 ·obtain ⟨a, rfl⟩ := uI l (hn.one rfl); exact Row.c (alC (hl a (by simp)))
 ·obtain ⟨a, rfl⟩ := uI l (hn.one rfl); exact Row.c (alC (hl a (by simp)))
 ·obtain ⟨a, rfl⟩ := uI l (hn.one rfl); exact Row.c (as6 (hl a (by simp)))
 ·obtain ⟨a, rfl⟩ := uI l (hn.one rfl); exact Row.c (asu (hl a (by simp)))
 ·obtain ⟨a, rfl⟩ := uI l (hn.one rfl); exact Row.c (asA (hl a (by simp)))
 ·obtain ⟨a, b, rfl⟩ := dZ l (hn.two rfl); exact Row.c (anp (hl a (by simp)) (hl b (by simp)))
 ·obtain ⟨a, b, rfl⟩ := dZ l (hn.two rfl); exact Row.c (anm (hl a (by simp)))
 ·obtain ⟨a, b, rfl⟩ := dZ l (hn.two rfl); exact Row.c (aon (hb rfl))
 ·obtain ⟨a, b, rfl⟩ := dZ l (hn.two rfl); exact Row.c (asi (hl a (by simp)))
end Abs
end Go.Proofs.YtiiaccpcoclklaaGreat
namespace Go.Proofs.YtiiaccpcoclklaaGreat
namespace Abs
open Go
end Abs
end Go.Proofs.YtiiaccpcoclklaaGreat
namespace Go.Proofs.YtiiaccpcoclklaaGreat
namespace Abs
open Go
theorem xA {α σ τ ρ : Type} (l : List α) (L : Nat → Nat → Int → σ → Option (LR τ ρ)) (step : Nat → Int → α → σ → Option (LR σ ρ)) (st : Int → α → σ → LR σ ρ) (fin : σ → τ) (I : Int → List α → σ → Prop)
  (h0 : ∀ n k s, L n (k + 1) (l.length : Int) s = some (.nx (fin s)))
  (h1 : ∀ n k i x s, idx l i = some x → decide (i < (l.length : Int)) = true → L n (k + 1) i s = (step n i x s).bind (LR.el (fun s' => L n k (i + 1) s') (fun r => some (.rt r))))
  (hI : ∀ i x suf s, x ∈ l → I i (x :: suf) s → idx l i = some x → Ev (fun n => step n i x s) (st i x s) ∧ ∀ s', st i x s = .nx s' → I (i + 1) suf s') {s0 : σ} (hs0 : I 0 l s0) : Ev (fun n => L n n 0 s0) (dX st fin 0 l s0) := by
 have key : ∀ (suf pre : List α) (s : σ), l = pre ++ suf → I (pre.length : Int) suf s → ∃ N, ∀ n, N ≤ n → ∀ k, suf.length + 1 ≤ k → L n k (pre.length : Int) s = some (dX st fin (pre.length : Int) suf s) := by
  intro suf
  induction suf with
  | nil =>
   intro pre s hl _
   refine ⟨0, fun n _ k hk => ?_⟩
   cases k with
   | zero => simp at hk
   | succ k =>
    have e : pre.length = l.length := by rw [hl]; simp
    rw [e, h0]
    rfl
  | cons x suf ih =>
   intro pre s hl hIs
   have hx : idx l (pre.length : Int) = some x := by rw [hl]; exact BA pre x suf
   obtain ⟨⟨N1, k1⟩, k2⟩ := hI _ x suf s (by rw [hl]; simp) hIs hx
   replace k1 : ∀ n, N1 ≤ n → step n (pre.length : Int) x s = some (st (pre.length : Int) x s) := k1
   have hi : decide ((pre.length : Int) < (l.length : Int)) = true := decide_eq_true (by rw [hl]; simp; omega)
   cases hs : st (pre.length : Int) x s with
   | rt r =>
    refine ⟨N1, fun n hn k hk => ?_⟩
    cases k with
    | zero => simp at hk
    | succ k =>
     rw [h1 n k _ x s hx hi, k1 n hn, hs]
     simp [dX, hs]
   | nx s' =>
    have h3 := k2 s' hs
    have e : ((pre ++ [x]).length : Int) = (pre.length : Int) + 1 := by simp
    obtain ⟨N2, h4⟩ := ih (pre ++ [x]) s' (by rw [hl]; simp) (by rw [e]; exact h3)
    refine ⟨max N1 N2, fun n hn k hk => ?_⟩
    cases k with
    | zero => simp at hk
    | succ k =>
     rw [h1 n k _ x s hx hi, k1 n (by omega), hs]
     simp only [Option.bind_some, LR.el]
     have := h4 n (by omega) k (by simp at hk; omega)
     rw [e] at this
     rw [this]
     simp [dX, hs]
 obtain ⟨N, hN⟩ := key l [] s0 rfl hs0
 exact ⟨max N (l.length + 1), fun n hn => hN n (by omega) n (by omega)⟩
def Wf (d : Int) (t : Tm) : Prop := ∃ c, 0 ≤ c ∧ (mf t d c).1 = true
theorem ak4 : ∀ (ts : List Tm) (d c : Int), 0 ≤ c → (kS ts d c).1 = true → c + ts.length ≤ (kS ts d c).2 ∧ ∀ t ∈ ts, Wf d t
 | [], _, c, _, _ => by simp [kS]
 | t :: ts, d, c, h0, h => by
  simp only [kS] at h ⊢
  cases hb : (mf t d c).1 with
  | false => rw [hb] at h; cases h
  | true =>
   rw [hb] at h
   simp only [cond_true] at h ⊢
   have h1 := QL t d c hb
   obtain ⟨h2, h3⟩ := ak4 ts d _ (by omega) h
   refine ⟨by simp only [List.length_cons]; omega, fun u hu => ?_⟩
   rcases List.mem_cons.1 hu with rfl | hu
   ·exact ⟨_, h0, hb⟩
   ·exact h3 u hu
theorem Wf.node {op : Int} {nm : Str} {m : Int} {ty : Ty} {ks : List Tm} {d : Int} (h : Wf d (.mk op nm m ty ks)) : fK (.mk op nm m ty ks) = true ∧ d ≤ 64 ∧ ks.length ≤ 2000 ∧ ∀ t ∈ ks, Wf (d + 1) t := by
 obtain ⟨c, h0, h⟩ := h
 simp only [mf] at h
 cases hb : ((decide (c + 1 ≤ 2000) && decide (d ≤ 64)) && fK (.mk op nm m ty ks)) with
 | false => rw [hb] at h; cases h
 | true =>
  rw [hb] at h
  simp only [cond_true] at h
  simp only [Bool.and_eq_true, decide_eq_true_eq] at hb
  obtain ⟨h1, h2⟩ := ak4 _ _ _ (by omega) h
  have h3 := adt ks _ _ h
  exact ⟨hb.2, hb.1.2, by have := h3.2 hb.1.1; omega, h2⟩
theorem gM {t : Tm} (h : cB t = true) : Wf 1 t := ⟨0, by omega, h⟩
theorem amV {op : Int} (h : (dP op == -2) = false) : 1 ≤ op ∧ op ≤ 56 := by
 by_cases hr : 1 ≤ op ∧ op ≤ 56
 ·exact hr
 ·exfalso
  have e : dP op = -2 := by
   unfold dP
   have h1 : (op == 1 || (op == 2 || (op == 19 || (op == 20 || op == 29)))) = false := by
    simp only [Bool.or_eq_false_iff, beq_eq_false_iff_ne]
    omega
   have h2 : (op == 3 || (op == 21 || (decide (46 ≤ op) && decide (op ≤ 52)))) = false := by
    simp only [Bool.or_eq_false_iff, beq_eq_false_iff_ne, Bool.and_eq_false_iff, decide_eq_false_iff_not]
    omega
   have h3 : (op == 28) = false := by
    simp only [beq_eq_false_iff_ne]
    omega
   have h4 : (decide (4 ≤ op) && decide (op ≤ 56)) = false := by
    simp only [Bool.and_eq_false_iff, decide_eq_false_iff_not]
    omega
   rw [h1, h2, h3, h4]
   rfl
  rw [e] at h
  cases h
theorem jO {op : Int} {nm : Str} {m : Int} {ty : Ty} {ks : List Tm} (h : fK (.mk op nm m ty ks) = true) : (1 ≤ op ∧ op ≤ 56) ∧ (op = 20 → ks = []) ∧ (op = 29 → ks = [] ∧ bR ty = true ∧ (ty.kind == 2) = false) ∧ (∀ l : List Ty, l.length = ks.length → LenOk op l) ∧ (bE op = true → ∃ x y, ks = [x, y]) := by
 simp only [fK, Bool.and_eq_true, yN, Tm.op, Tm.kids, Bool.not_eq_true'] at h
 obtain ⟨⟨h1, h2⟩, _, _, h5⟩ := h
 have hlen : ∀ q : Int, dP op = q → (q == -1) = false → (ks.length : Int) = q := fun q e hq => by
  rw [e, hq] at h2
  simpa using h2
 have hnil : dP op = 0 → ks = [] := fun e => by
  have := hlen 0 e rfl
  exact List.length_eq_zero_iff.1 (by omega)
 refine ⟨amV h1, fun e => hnil (by subst e; rfl), fun e => ⟨hnil (by subst e; rfl), ?_⟩, fun l hl => ⟨fun e => by rw [hl]; exact hlen 1 e rfl, fun e => by rw [hl]; exact hlen 2 e rfl, fun e => ?_⟩, fun hb => ?_⟩
 ·subst e
  have h5' : (bR ty && ty.kind != 2) = true := h5
  simp only [Bool.and_eq_true, bne_iff_ne, ne_eq] at h5'
  exact ⟨h5'.1, by simpa using h5'.2⟩
 ·rintro rfl
  rw [e] at h2
  have : ks = [] := List.length_eq_zero_iff.1 hl.symm
  subst this
  cases h2
 ·have : dP op = 2 := by
   simp only [bE, Bool.or_eq_true, beq_iff_eq] at hb
   rcases hb with rfl | rfl | rfl | rfl <;> rfl
  obtain ⟨x, y, e⟩ := dZ ks (hlen 2 this rfl)
  exact ⟨x, y, e⟩
inductive TR where
 | ok (t : Ty)
 | er (e : Int) (p : List Int)
inductive KR where
 | ok (l : List Ty)
 | er (e : Int) (p : List Int)
def lZ (env : Env) (sc : List Decl) (s : Str) : Option Ty := match sc.find? (fun d => d.name == s) with | some d => some d.ty | none => look env s
def uQ (o : Option Ty) : TR := match o with | some t => cond (bR t) (.ok t) (.er 5 []) | none => .er 7 []
def knows (env : Env) (t : Ty) : Bool := (fZ t).all (dU env)
def iY (b : Bool) (nm : Str) (ty : Ty) (sc : List Decl) : Option (List Decl) := cond b ((cu ty).map fun e => ⟨nm, e⟩ :: sc) (some sc)
mutual
def bF (env : Env) : List Decl → Tm → TR
 | sc, .mk op nm _ ty ks =>
  cond (op == 20) (match lZ env sc nm with | some t => .ok t | none => .er 6 [])
   (cond (op == 29 && !(knows env ty)) (.er 6 [])
    (match dH env sc (bE op) nm 0 ks with
     | .er e p => .er e p
     | .ok l => uQ (cond (op == 29) (some (bA ty)) (mD op l))))
def dH (env : Env) : List Decl → Bool → Str → Int → List Tm → KR
 | _, _, _, _, [] => .ok []
 | sc, b, nm, i, t :: ts => match bF env sc t with
  | .er e p => .er e (i :: p)
  | .ok ty => match iY b nm ty sc with
   | none => .er 7 []
   | some sc' => match dH env sc' false nm (i + 1) ts with
    | .er e p => .er e p
    | .ok l => .ok (ty :: l)
end
def GoodS (sc : List Decl) : Prop := ∀ d ∈ sc, Good d.ty
theorem Yf {t : Ty} (h : bR t = true) (hb : jA 2 t = false) : Good t := by
 rcases Sz h with rfl | h
 ·cases hb
 ·exact h
theorem apo {env : Env} (h : bJ env = true) {s : Str} {t : Ty} (ht : look env s = some t) : Good t := by
 rw [C8 h] at ht
 unfold sS at ht
 rcases List.mem_append.1 ht with ht | ht
 ·obtain ⟨c, hc, ht⟩ := List.mem_flatMap.1 ht
  unfold oH at ht
  rcases List.mem_cons.1 ht with ht | ht
  ·cases ht; exact .set (.car _)
  ·obtain ⟨e, _, he⟩ := List.mem_map.1 ht
   cases he; exact .car _
 ·obtain ⟨d, hd, he⟩ := List.mem_map.1 ht
  cases he
  obtain ⟨_, h1, h2, _⟩ := GR h hd
  exact Yf h1 h2
theorem amg {env : Env} (h : bJ env = true) {sc : List Decl} (hs : GoodS sc) {s : Str} {t : Ty} (ht : lZ env sc s = some t) : Good t := by
 unfold lZ at ht
 cases hf : sc.find? (fun d => d.name == s) with
 | some d => rw [hf] at ht; cases ht; exact hs d (List.mem_of_find?_eq_some hf)
 | none => rw [hf] at ht; exact apo h ht
theorem aeT {o : Option Ty} {t : Ty} (h : uQ o = .ok t) : o = some t ∧ bR t = true := by
 cases o with
 | none => cases h
 | some u =>
  simp only [uQ] at h
  cases hv : bR u with
  | false => rw [hv] at h; cases h
  | true => rw [hv] at h; cases h; exact ⟨rfl, hv⟩
theorem alI {o : Option Ty} {e : Int} {p : List Int} (h : uQ o = .er e p) : e ≠ 0 ∧ p = [] := by
 cases o with
 | none => cases h; exact ⟨by decide, rfl⟩
 | some u =>
  simp only [uQ] at h
  cases hv : bR u with
  | false => rw [hv] at h; cases h; exact ⟨by decide, rfl⟩
  | true => rw [hv] at h; cases h
theorem JR {b : Bool} {nm : Str} {ty : Ty} {sc sc' : List Decl} (ht : Top ty) (hs : GoodS sc) (h : iY b nm ty sc = some sc') : GoodS sc' := by
 unfold iY at h
 cases b with
 | false => cases h; exact hs
 | true =>
  simp only [cond_true] at h
  cases he : cu ty with
  | none => rw [he] at h; cases h
  | some e =>
   rw [he] at h
   cases h
   intro d hd
   rcases List.mem_cons.1 hd with rfl | hd
   ·exact (qD ht he).1
   ·exact hs d hd
theorem E9 {env : Env} (h : bJ env = true) {t : Tm} {sc : List Decl} (hs : GoodS sc) {ty : Ty} (ht : bF env sc t = .ok ty) : Top ty := by
 obtain ⟨op, nm, m, u, ks⟩ := t
 simp only [bF] at ht
 cases h20 : (op == 20) with
 | true =>
  rw [h20] at ht
  simp only [cond_true] at ht
  cases hl : lZ env sc nm with
  | none => rw [hl] at ht; cases ht
  | some t => rw [hl] at ht; cases ht; exact .inr (amg h hs hl)
 | false =>
  rw [h20] at ht
  simp only [cond_false] at ht
  cases h29 : (op == 29 && !(knows env u)) with
  | true => rw [h29] at ht; cases ht
  | false =>
   rw [h29] at ht
   simp only [cond_false] at ht
   cases hk : dH env sc (bE op) nm 0 ks with
   | er e p => rw [hk] at ht; cases ht
   | ok l => rw [hk] at ht; exact Sz (aeT ht).2
theorem Ve {env : Env} (h : bJ env = true) : ∀ (ts : List Tm) (sc : List Decl) (b : Bool) (nm : Str) (i : Int) (l : List Ty), GoodS sc → dH env sc b nm i ts = .ok l → l.length = ts.length ∧ (∀ t ∈ l, Top t) ∧ (b = true → ts ≠ [] → (cu (l.headD bg)).isSome = true)
 | [], sc, b, nm, i, l, _, hk => by
  simp only [dH] at hk
  cases hk
  exact ⟨rfl, fun t ht => (by cases ht), fun _ h => absurd rfl h⟩
 | t :: ts, sc, b, nm, i, l, hs, hk => by
  simp only [dH] at hk
  cases ht : bF env sc t with
  | er e p => rw [ht] at hk; cases hk
  | ok ty =>
   rw [ht] at hk
   simp only at hk
   have htop := E9 h hs ht
   cases hb : iY b nm ty sc with
   | none => rw [hb] at hk; cases hk
   | some sc' =>
    rw [hb] at hk
    simp only at hk
    cases hr : dH env sc' false nm (i + 1) ts with
    | er e p => rw [hr] at hk; cases hk
    | ok l' =>
     rw [hr] at hk
     cases hk
     obtain ⟨h1, h2, _⟩ := Ve h ts sc' false nm (i + 1) l' (JR htop hs hb) hr
     refine ⟨by simp [h1], fun u hu => ?_, fun hbt _ => ?_⟩
     ·rcases List.mem_cons.1 hu with rfl | hu
      ·exact htop
      ·exact h2 u hu
     ·subst hbt
      show (cu ty).isSome = true
      unfold iY at hb
      cases he : cu ty with
      | none => rw [he] at hb; cases hb
      | some e => rfl
mutual
theorem H6 {env : Env} : ∀ (t : Tm) (sc : List Decl) (e : Int) (p : List Int), bF env sc t = .er e p → e ≠ 0
 | .mk op nm m u ks, sc, e, p, h => by
  simp only [bF] at h
  cases h20 : (op == 20) with
  | true =>
   rw [h20] at h
   simp only [cond_true] at h
   cases hl : lZ env sc nm with
   | none => rw [hl] at h; cases h; decide
   | some t => rw [hl] at h; cases h
  | false =>
   rw [h20] at h
   simp only [cond_false] at h
   cases h29 : (op == 29 && !(knows env u)) with
   | true => rw [h29] at h; cases h; decide
   | false =>
    rw [h29] at h
    simp only [cond_false] at h
    cases hk : dH env sc (bE op) nm 0 ks with
    | er e' p' => rw [hk] at h; cases h; exact akU ks sc _ nm 0 _ _ hk
    | ok l => rw [hk] at h; exact (alI h).1
theorem akU {env : Env} : ∀ (ts : List Tm) (sc : List Decl) (b : Bool) (nm : Str) (i : Int) (e : Int) (p : List Int), dH env sc b nm i ts = .er e p → e ≠ 0
 | [], sc, b, nm, i, e, p, h => by simp only [dH] at h; cases h
 | t :: ts, sc, b, nm, i, e, p, h => by
  simp only [dH] at h
  cases ht : bF env sc t with
  | er e' p' => rw [ht] at h; cases h; exact H6 t sc _ _ ht
  | ok ty =>
   rw [ht] at h
   simp only at h
   cases hb : iY b nm ty sc with
   | none => rw [hb] at h; cases h; decide
   | some sc' =>
    rw [hb] at h
    simp only at h
    cases hr : dH env sc' false nm (i + 1) ts with
    | er e' p' => rw [hr] at h; cases h; exact akU ts sc' false nm _ _ _ hr
    | ok l' => rw [hr] at h; cases h
end
mutual
theorem Tf {env : Env} : ∀ {t : Tm} {d : Int} (_ : Wf d t) (sc : List Decl) (e : Int) (p : List Int), bF env sc t = .er e p → (p.length : Int) + d ≤ 64
 | .mk op nm m u ks, d, hw, sc, e, p, h => by
  obtain ⟨_, hd, _, hkw⟩ := hw.node
  simp only [bF] at h
  cases h20 : (op == 20) with
  | true =>
   rw [h20] at h
   simp only [cond_true] at h
   cases hl : lZ env sc nm with
   | none => rw [hl] at h; cases h; simpa using hd
   | some t => rw [hl] at h; cases h
  | false =>
   rw [h20] at h
   simp only [cond_false] at h
   cases h29 : (op == 29 && !(knows env u)) with
   | true => rw [h29] at h; cases h; simpa using hd
   | false =>
    rw [h29] at h
    simp only [cond_false] at h
    cases hk : dH env sc (bE op) nm 0 ks with
    | er e' p' => rw [hk] at h; cases h; exact af5 ks d hd hkw sc _ nm 0 _ _ hk
    | ok l => rw [hk] at h; rw [(alI h).2]; simpa using hd
theorem af5 {env : Env} : ∀ (ts : List Tm) (d : Int) (_ : d ≤ 64) (_ : ∀ t ∈ ts, Wf (d + 1) t) (sc : List Decl) (b : Bool) (nm : Str) (i : Int) (e : Int) (p : List Int), dH env sc b nm i ts = .er e p → (p.length : Int) + d ≤ 64
 | [], d, _, _, sc, b, nm, i, e, p, h => by simp only [dH] at h; cases h
 | t :: ts, d, hd, hw, sc, b, nm, i, e, p, h => by
  simp only [dH] at h
  cases ht : bF env sc t with
  | er e' p' =>
   rw [ht] at h
   cases h
   have := Tf (hw t (List.mem_cons_self ..)) sc _ _ ht
   simp only [List.length_cons, Int.natCast_add, Int.natCast_one]
   omega
  | ok ty =>
   rw [ht] at h
   simp only at h
   cases hb : iY b nm ty sc with
   | none => rw [hb] at h; cases h; simpa using hd
   | some sc' =>
    rw [hb] at h
    simp only at h
    cases hr : dH env sc' false nm (i + 1) ts with
    | er e' p' => rw [hr] at h; cases h; exact af5 ts d hd (fun u hu => hw u (List.mem_cons_of_mem _ hu)) sc' false nm _ _ _ hr
    | ok l' => rw [hr] at h; cases h
end
end Abs
end Go.Proofs.YtiiaccpcoclklaaGreat
namespace Go.Proofs.YtiiaccpcoclklaaGreat
namespace Abs
open Go
def Dt (env : Env) : List (Str × Ty) := gU (sS env) []
def Bv (env : Env) : List (Str × Bool) := gU (env.carriers.map fun c => (c.name, true)) []
theorem ahL {env : Env} (h : bJ env = true) (s : Str) : gq (Dt env) s = look env s := by
 unfold Dt
 rw [KE _ _ _ (wY h), FH]
 unfold look
 rw [← Q5 (Qn env) (wY h)]
 cases gq (sS env) s <;> rfl
theorem ajK {env : Env} (h : bJ env = true) (s : Str) : gq (Bv env) s = cond (dU env s) (some true) none := by
 unfold Bv
 have hn : ((env.carriers.map fun c => (c.name, true)).map (·.1)).Nodup := by
  have := (fH h).2.2.2.2
  unfold names2 at this
  rw [List.map_map]
  exact (List.nodup_append.1 this).1
 rw [KE _ _ _ hn, FH, MO (fun c : Carrier => c.name) (fun _ => true)]
 unfold dU
 cases hf : env.carriers.find? (fun c => c.name == s) with
 | none =>
  have : (env.carriers.any fun c => c.name == s) = false := by
   rw [List.any_eq_false]
   intro x hx
   simpa using List.find?_eq_none.1 hf x hx
  rw [this]
  rfl
 | some c =>
  have : (env.carriers.any fun c => c.name == s) = true := List.any_eq_true.2 ⟨c, List.mem_of_find?_eq_some hf, by have := List.find?_some hf; simpa using this⟩
  rw [this]
  rfl
theorem ag2 {env : Env} (h : bJ env = true) : Ev (fun n => vL n env) (Dt env, Bv env) := by
 obtain ⟨hc8, _⟩ := fH h
 unfold vL
 refine Ev.bind (YD h) ?_
 have h1 := j4 (ρ := (List (Str × Ty)) × (List (Str × Bool))) env.carriers (fun n k i s => qP n env k (i, s)) (fun n x s => CJ s x.name true) (fun x s => mR s x.name true) (fun s => s) (fun suf s => s.length + suf.length ≤ 1000)
  (fun n k i s => rfl)
  (fun x suf s hx hs => by
   simp only [List.length_cons] at hs
   refine ⟨?_, ?_⟩
   ·rw [Kg (by omega)]; exact Ev.ret _
   ·have := E5 s x.name true; omega) (s0 := []) (by simp; omega)
 have hf : ∀ (cs : List Carrier) (m : List (Str × Bool)), cs.foldl (fun s x => mR s x.name true) m = gU (cs.map fun c => (c.name, true)) m := by
  intro cs
  induction cs with
  | nil => intro m; rfl
  | cons e es ih => intro m; rw [List.foldl_cons, ih]; rfl
 rw [hf] at h1
 exact Ev.bind h1 (Ev.ret _)
theorem aqQ {env : Env} (h : bJ env = true) {t : Ty} (ht : bR t = true) (M : List (Str × Ty)) (path : List Int) : Ev (fun n => ow n M (Bv env) path t) (knows env t) := by
 unfold ow om qG knows
 refine Ev.bind (Db ht) ?_
 generalize hl : ((gU ((fZ t).map fun s => (s, true)) []).map (·.1)).mergeSort Gt = l
 have hm : ∀ s, s ∈ l ↔ s ∈ fZ t := fun s => by rw [← hl]; exact KC t s
 have hf := xu l (fun n k i => kJ n l M (Bv env) path k i) (fun n x => pU n x M (Bv env) path) (fun s => !(dU env s)) (fun n k i => rfl) (fun x _ => by
  unfold pU
  rw [ajK h]
  cases dU env x
  ·exact Ev.ret _
  ·exact Ev.ret _)
 refine Ev.bind (a := l.any fun s => !(dU env s)) (Ev.bind hf ?_) ?_
 ·rw [Av _ _ _ (Int.le_refl _)]
  exact Ev.ret _
 ·rw [rU, Bool.not_not]
  have : l.all (dU env) = (fZ t).all (dU env) := by
   have h : (l.all (dU env) = true) ↔ ((fZ t).all (dU env) = true) := by simp only [List.all_eq_true, hm]
   cases h1 : l.all (dU env) <;> cases h2 : (fZ t).all (dU env) <;> simp_all
  rw [this]
  exact Ev.ret _
theorem aae (n : Nat) (op : Int) : xP n op = some (bE op) := by
 unfold xP bE
 simp only [orC, Option.bind_some]
theorem acr (t : Ty) : Ev (fun n => ql n t) (cond (bR t) (t, 0) (bg, 5)) := by
 unfold ql
 refine Ev.bind (kH t) ?_
 cases bR t
 ·exact Ev.ret _
 ·exact Ev.ret _
def scP (o : Option Decl) : Ty × Bool := match o with | some d => (d.ty, true) | none => (bg, false)
theorem abV (sc : List Decl) (s : Str) : Ev (fun n => o7 n sc s) (scP (sc.find? fun d => d.name == s)) := by
 have key : ∀ (sc : List Decl) (n k : Nat), sc.length + 1 ≤ k → jZ n s k sc = some (match sc.find? (fun d => d.name == s) with | some d => .rt (d.ty, true) | none => .nx ()) := by
  intro sc
  induction sc with
  | nil =>
   intro n k hk
   cases k with
   | zero => simp at hk
   | succ k => rfl
  | cons d sc ih =>
   intro n k hk
   cases k with
   | zero => simp at hk
   | succ k =>
    show cond (d.name == s) (some (.rt (d.ty, true))) (jZ n s k sc) = _
    simp only [List.find?_cons]
    cases hd : d.name == s with
    | true => rfl
    | false => exact ih n k (by simp at hk; omega)
 unfold o7
 have h1 : Ev (fun n => jZ n s n sc) (match sc.find? (fun d => d.name == s) with | some d => .rt (d.ty, true) | none => .nx ()) := ⟨sc.length + 1, fun n hn => key sc n n hn⟩
 refine Ev.bind h1 ?_
 cases sc.find? fun d => d.name == s
 ·exact Ev.ret _
 ·exact Ev.ret _
def NA (path : List Int) (r : TR) : Ty × Int × List Int := match r with | .ok t => (t, 0, path) | .er e p => (bg, e, path ++ p)
abbrev CS := List Decl × List Ty × List Int
def auX (env : Env) (n : Nat) (t : Tm) (i : Int) (s : CS) : Option (LR CS (Ty × Int × List Int)) := (iq n (Dt env) (Bv env) s.2.2 t i s.1).bind fun (x57 : Ty × Int × (List Int)) => (cond (x57.2.1 != 0) (some (.rt ((Ty.mk 0 ([] : Str) ([])), x57.2.1, x57.2.2))) ((app 48 s.2.1 ([x57.1])).bind fun (x58 : List Ty) => (((cond (i == 0) ((xP n t.op).bind fun (x60 : Bool) => some x60) (some false)) : Option Bool).bind fun (s6 : Bool) => (cond s6 ((dW n x57.1).bind fun (x59 : Ty × Bool) => (cond (!x59.2) (some (.rt ((Ty.mk 0 ([] : Str) ([])), 7, x57.2.2))) (some (.nx (((Decl.mk t.name x59.1) :: s.1), x58, x57.2.2))))) (some (.nx (s.1, x58, x57.2.2)))))))
def stC (env : Env) (op : Int) (nm : Str) (i : Int) (x : Tm) (s : CS) : LR CS (Ty × Int × List Int) := match bF env s.1 x with
 | .er e p => .rt (bg, e, s.2.2 ++ i :: p)
 | .ok ty => match iY (i == 0 && bE op) nm ty s.1 with
  | none => .rt (bg, 7, s.2.2)
  | some sc' => .nx (sc', s.2.1 ++ [ty], s.2.2)
theorem ale (env : Env) (op : Int) (nm : Str) : ∀ (ts : List Tm) (i : Int) (sc : List Decl) (acc : List Ty) (path : List Int), 0 ≤ i → (match dH env sc (i == 0 && bE op) nm i ts with
  | .er e p => dX (stC env op nm) (fun s => s) i ts (sc, acc, path) = .rt (bg, e, path ++ p)
  | .ok l => ∃ sc', dX (stC env op nm) (fun s => s) i ts (sc, acc, path) = .nx (sc', acc ++ l, path))
 | [], i, sc, acc, path, _ => by
  simp only [dH, dX, List.append_nil]
  exact ⟨sc, rfl⟩
 | t :: ts, i, sc, acc, path, hi => by
  simp only [dH, dX, stC]
  cases ht : bF env sc t with
  | er e p => rfl
  | ok ty =>
   simp only
   cases hb : iY (i == 0 && bE op) nm ty sc with
   | none => simp only [List.append_nil]
   | some sc' =>
    simp only
    have hz : (i + 1 == 0) = false := by simp only [beq_eq_false_iff_ne]; omega
    have := ale env op nm ts (i + 1) sc' (acc ++ [ty]) path (by omega)
    rw [hz, Bool.false_and] at this
    cases hr : dH env sc' false nm (i + 1) ts with
    | er e p => rw [hr] at this; exact this
    | ok l =>
     rw [hr] at this
     obtain ⟨sc2, h2⟩ := this
     exact ⟨sc2, by rw [h2]; simp⟩
def aow (env : Env) (t : Tm) : Prop := ∀ (d : Int) (sc : List Decl) (path : List Int), Wf d t → GoodS sc → (path.length : Int) < d → Ev (fun n => jE n (Dt env) (Bv env) path t sc) (NA path (bF env sc t))
theorem aoW (path : List Int) (i : Int) (h : path.length ≤ 1000) : iX (path ++ [i]) 0 (IntKind.wrap .i64 (((path ++ [i]).length : Int) - 1)) = some path := by
 have e : ((path ++ [i]).length : Int) - 1 = (path.length : Int) := by simp
 rw [e, wrap64 (by omega) (by omega), CX _ _ (by simp)]
 simp
theorem aqk {env : Env} {t x : Tm} {i : Int} (hx : idx t.kids i = some x) (hc : aow env x) {d : Int} {sc : List Decl} {path : List Int} (hw : Wf (d + 1) x) (hs : GoodS sc) (hp : (path.length : Int) < d) (hd : d ≤ 64) :
  Ev (fun n => iq n (Dt env) (Bv env) path t i sc) (match bF env sc x with | .ok ty => (ty, 0, path) | .er e p => (bg, e, path ++ i :: p)) := by
 refine Ev.succ ?_
 show Ev (fun n => ng n _ _ (Dt env) (Bv env) path t i sc) _
 unfold ng
 rw [fD (by simp; omega) (by omega), hx]
 simp only [Option.bind_some]
 refine Ev.bind (hc (d + 1) sc (path ++ [i]) hw hs (by simp; omega)) ?_
 cases ht : bF env sc x with
 | ok ty =>
  simp only [NA]
  refine Ev.bind (a := path) ?_ (Ev.ret _)
  simp only [show ((0 : Int) == 0) = true from rfl, cond_true]
  rw [aoW path i (by omega)]
  exact Ev.ret _
 | er e p =>
  have he := H6 x sc e p ht
  have e0 : (e == 0) = false := by simpa using he
  simp only [NA, e0, cond_false, Option.bind_some, List.append_assoc, List.singleton_append]
  exact Ev.ret _
theorem aqU (n : Nat) (r1 : (List (Str × Ty)) → (List (Str × Bool)) → (List Int) → Tm → (List Decl) → Option (Ty × Int × (List Int))) (r2 : (List (Str × Ty)) → (List (Str × Bool)) → (List Int) → Tm → Int → (List Decl) → Option (Ty × Int × (List Int))) (p0 : List (Str × Ty)) (p1 : List (Str × Bool)) (p2 : List Int) (p3 : Tm) (p4 : List Decl) :
  pE n r1 r2 p0 p1 p2 p3 p4 = ((oq n r1 r2 p0 p1 p3 n (p4, ([] : List Ty), 0, p2)).bind (LR.el (fun (s2 : (List Decl) × (List Ty) × (List Int)) => (cond (p3.op == 20) ((o7 n s2.1 p3.name).bind fun (x1 : Ty × Bool) => (cond x1.2 (some (x1.1, 0, s2.2.2)) (((mel (gq p0 p3.name) (some (false, 0, ([] : Str), ([] : List Ty))) (fun (x2 : Ty) => some (true, x2.kind, x2.name, x2.kids))) : Option (Bool × Int × Str × (List Ty))).bind fun (s3 : Bool × Int × Str × (List Ty)) => (cond (!s3.1) (some ((Ty.mk 0 ([] : Str) ([])), 6, s2.2.2)) (some ((Ty.mk s3.2.1 s3.2.2.1 s3.2.2.2), 0, s2.2.2)))))) (cond (p3.op == 29) ((ow n p0 p1 s2.2.2 p3.ty).bind fun (x3 : Bool) => (cond (!x3) (some ((Ty.mk 0 ([] : Str) ([])), 6, s2.2.2)) ((ql n (Ty.mk 5 ([] : Str) ([p3.ty]))).bind fun (x4 : Ty × Int) => some (x4.1, x4.2, s2.2.2)))) ((apj n p3.op s2.2.1).bind fun (s4 : Bool × Int × Str × (List Ty)) => (cond (!s4.1) (some ((Ty.mk 0 ([] : Str) ([])), 7, s2.2.2)) ((ql n (Ty.mk s4.2.1 s4.2.2.1 s4.2.2.2)).bind fun (x5 : Ty × Int) => some (x5.1, x5.2, s2.2.2))))))) (fun r => some r))) := rfl
theorem atg {env : Env} (hv : bJ env = true) : ∀ t : Tm, aow env t := Tm.ind fun op nm m ty ks ih d sc path hw hs hp => by
 obtain ⟨hnode, hd, hks, hkw⟩ := hw.node
 obtain ⟨hop, h20k, h29k, hlen, hbk⟩ := jO hnode
 refine Ev.succ ?_
 show Ev (fun n => pE n (fun p0 p1 p2 p3 p4 => jE n p0 p1 p2 p3 p4) (fun p0 p1 p2 p3 p4 p5 => iq n p0 p1 p2 p3 p4 p5) (Dt env) (Bv env) path (.mk op nm m ty ks) sc) _
 simp only [aqU]
 have hloop := xA ks (fun n k i (s : CS) => oq n (fun p0 p1 p2 p3 p4 => jE n p0 p1 p2 p3 p4) (fun p0 p1 p2 p3 p4 p5 => iq n p0 p1 p2 p3 p4 p5) (Dt env) (Bv env) (.mk op nm m ty ks) k (s.1, s.2.1, i, s.2.2))
  (fun n i _ s => auX env n (.mk op nm m ty ks) i s) (stC env op nm) (fun s => s) (fun _ suf s => GoodS s.1 ∧ s.2.1.length + suf.length ≤ 2000 ∧ s.2.2 = path)
  (fun n k s => by
   show cond (decide ((ks.length : Int) < (ks.length : Int))) _ _ = _
   rw [decide_eq_false (by omega)]
   rfl)
  (fun n k i x s hx hi => by
   show cond (decide (i < (ks.length : Int))) _ _ = _
   rw [hi]
   rfl)
  (fun i x suf s hx hI hidx => by
   obtain ⟨h1, h2, h3⟩ := hI
   simp only [List.length_cons] at h2
   have hch := aqk (t := .mk op nm m ty ks) (i := i) hidx (ih x hx) (hkw x hx) h1 (path := s.2.2) (by rw [h3]; exact hp) hd
   refine ⟨?_, fun s' hs' => ?_⟩
   ·refine Ev.bind hch ?_
    unfold stC
    cases ht : bF env s.1 x with
    | er e p =>
     have he := H6 x s.1 e p ht
     have e0 : (e != 0) = true := by simpa using he
     simp only [e0, cond_true]
     exact Ev.ret _
    | ok u =>
     have htop := E9 hv h1 ht
     simp only [show ((0 : Int) != 0) = false from rfl, cond_false]
     rw [fD (by simp; omega) (by omega)]
     simp only [Option.bind_some, aae, Tm.op, Tm.name]
     refine Ev.bind (a := (i == 0 && bE op)) ?_ ?_
     ·cases i == 0
      ·exact Ev.ret _
      ·exact Ev.ret _
     ·unfold iY
      cases (i == 0 && bE op) with
      | false => exact Ev.ret _
      | true =>
       simp only [cond_true, jX _ htop, Option.bind_some]
       cases cu u with
       | none => exact Ev.ret _
       | some e => exact Ev.ret _
   ·unfold stC at hs'
    cases ht : bF env s.1 x with
    | er e p => rw [ht] at hs'; cases hs'
    | ok u =>
     rw [ht] at hs'
     simp only at hs'
     cases hb : iY (i == 0 && bE op) nm u s.1 with
     | none => rw [hb] at hs'; cases hs'
     | some sc' =>
      rw [hb] at hs'
      cases hs'
      refine ⟨JR (E9 hv h1 ht) h1 hb, ?_, h3⟩
      simp only [List.length_append, List.length_singleton]
      omega) (s0 := (sc, [], path)) ⟨hs, by simp; omega, rfl⟩
 have hrun := ale env op nm ks 0 sc [] path (Int.le_refl _)
 simp only [show ((0 : Int) == 0) = true from rfl, Bool.true_and, List.nil_append] at hrun
 simp only [bF]
 cases h20 : (op == 20) with
 | true =>
  have e : op = 20 := by simpa using h20
  have hk := h20k e
  subst hk
  refine Ev.bind hloop ?_
  simp only [dX, LR.el, Tm.op, Tm.name, h20, cond_true]
  refine Ev.bind (abV sc nm) ?_
  unfold lZ
  cases sc.find? (fun d => d.name == nm) with
  | some d => exact Ev.ret _
  | none =>
   simp only [scP, cond_false, cond_true, Tm.name, ahL hv]
   cases hl : look env nm with
   | none => simp only [NA, List.append_nil]; exact Ev.ret _
   | some t => obtain ⟨a, b, c⟩ := t; exact Ev.ret _
 | false =>
  simp only [cond_false]
  cases h29 : (op == 29) with
  | true =>
   have e : op = 29 := by simpa using h29
   obtain ⟨hk, hvt, _⟩ := h29k e
   subst hk
   refine Ev.bind hloop ?_
   simp only [Tm.op, h20, h29, cond_false, cond_true, Tm.ty]
   refine Ev.bind (aqQ hv hvt _ _) ?_
   cases knows env ty with
   | false => simp only [Bool.not_false, Bool.and_true, cond_true, NA, List.append_nil]; exact Ev.ret _
   | true =>
    simp only [Bool.not_true, Bool.and_false, cond_false, dH, uQ]
    refine Ev.bind (acr (bA ty)) ?_
    cases bR (bA ty) with
    | false => simp only [cond_false, NA, List.append_nil]; exact Ev.ret _
    | true => exact Ev.ret _
  | false =>
   simp only [Bool.false_and, cond_false]
   cases hk : dH env sc (bE op) nm 0 ks with
   | er e p =>
    rw [hk] at hrun
    simp only at hrun
    rw [hrun] at hloop
    exact Ev.bind hloop (Ev.ret _)
   | ok l =>
    rw [hk] at hrun
    obtain ⟨sc', hrun⟩ := hrun
    rw [hrun] at hloop
    refine Ev.bind hloop ?_
    simp only [LR.el, Tm.op, h20, h29, cond_false]
    obtain ⟨k1, k2, k3⟩ := Ve hv ks sc (bE op) nm 0 l hs hk
    obtain ⟨r, hr1, hr2⟩ := ao0 hop.1 hop.2 (by simpa using h20) (by simpa using h29) k2 (hlen l k1) (fun hb => k3 hb (by obtain ⟨x, y, e⟩ := hbk hb; rw [e]; simp))
    refine Ev.bind hr1 ?_
    cases ho : mD op l with
    | none =>
     rw [ho] at hr2
     simp only at hr2
     simp only [hr2, Bool.not_false, cond_true, uQ, NA, List.append_nil]
     exact Ev.ret _
    | some t =>
     rw [ho] at hr2
     simp only at hr2
     subst hr2
     simp only [Bool.not_true, cond_false, pQ, uQ]
     refine Ev.bind (acr t) ?_
     cases bR t with
     | false => simp only [cond_false, NA, List.append_nil]; exact Ev.ret _
     | true => exact Ev.ret _
end Abs
end Go.Proofs.YtiiaccpcoclklaaGreat
namespace Go.Proofs.YtiiaccpcoclklaaGreat
namespace Abs
open Go
def Jy (r : TR) : Ty × List Int × Int := match r with | .ok t => (t, [], 0) | .er e p => (bg, p, e)
end Abs
end Go.Proofs.YtiiaccpcoclklaaGreat

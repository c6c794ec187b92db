/-
  Environments: Lookup and With of the program and of the document come to the same plain answers; the law TypingEnvs. Conditions: none; lemmas without a program.
-/
import Derived.Test.YtiiaccpcoclklaaGreatCG1x5ef798
set_option linter.unusedSimpArgs false
set_option linter.unusedVariables false
namespace Go.Proofs.YtiiaccpcoclklaaGreat
namespace Abs
open Go
theorem qQ {env : Env} (h : bX env = true) : env.carriers.length ≤ 8 ∧ env.names.length ≤ 64 ∧ env.carriers.all Ca = true ∧ env.names.all (uF env) = true ∧ (names2 env).Nodup := by
 simp only [bX, Bool.and_eq_true, Bool.not_eq_true', Bool.or_eq_false_iff, decide_eq_false_iff_not, JN] at h
 obtain ⟨⟨h1, h2⟩, h3, h4, h5⟩ := h
 exact ⟨by omega, by omega, h3, h4, h5⟩
theorem VA {env : Env} (h : bX env = true) {d : Decl} (hd : d ∈ env.names) : named d.name = true ∧ bN d.ty = true ∧ ji 2 d.ty = false ∧ (eG d.ty).all (eu env) = true := by
 have := List.all_eq_true.1 (qQ h).2.2.2.1 d hd
 simp only [uF, Bool.and_eq_true, Bool.not_eq_true'] at this
 exact ⟨this.1, this.2.1.1, this.2.1.2, this.2.2⟩
theorem Mr {env : Env} (h : bX env = true) {c : Carrier} (hc : c ∈ env.carriers) : ident c.name = true ∧ c.elems.length ≤ 8 ∧ c.elems.all ident = true := by
 have := List.all_eq_true.1 (qQ h).2.2.1 c hc
 simp only [Ca, Bool.and_eq_true, Bool.not_eq_true', decide_eq_false_iff_not] at this
 exact ⟨this.1, by omega, this.2.2⟩
def vU (s : Str) : Ty := .mk 3 s []
def aW (t : Ty) : Ty := .mk 5 [] [t]
def l5 (c : Carrier) : List (Str × Ty) := (c.name, aW (vU c.name)) :: c.elems.map fun e => (e, vU c.name)
def uH (env : Env) : List (Str × Ty) := env.carriers.flatMap l5 ++ env.names.map fun d => (d.name, d.ty)
def Np (env : Env) : List (Str × Ty) := (env.names.map fun d => (d.name, d.ty)) ++ ((env.carriers.map fun c => (c.name, aW (vU c.name))) ++ env.carriers.flatMap fun c => c.elems.map fun e => (e, vU c.name))
def look (env : Env) (s : Str) : Option Ty := eP (Np env) s
theorem Ve (env : Env) : (uH env).Perm (Np env) := by
 unfold uH Np
 refine List.Perm.trans ?_ List.perm_append_comm
 refine List.Perm.append_right _ ?_
 generalize env.carriers = cs
 induction cs with
 | nil => simp
 | cons c cs ih =>
  simp only [List.flatMap_cons, List.map_cons, List.cons_append, l5]
  refine List.Perm.cons _ ?_
  refine (List.Perm.append_left _ ih).trans ?_
  rw [← List.append_assoc, ← List.append_assoc]
  exact List.Perm.append_right _ List.perm_append_comm
theorem ac3 (env : Env) : (uH env).map (·.1) = xI env := by
 simp only [uH, xI, List.map_append, List.map_map, List.map_flatMap, l5, List.map_cons]
 congr 1
 ·congr 1
  funext c
  simp [Function.comp_def]
theorem Bp {env : Env} (h : bX env = true) : ((uH env).map (·.1)).Nodup := by
 rw [ac3, (KI env).nodup_iff]
 exact (qQ h).2.2.2.2
theorem Km {env : Env} (h : bX env = true) {s : Str} {t : Ty} : look env s = some t ↔ (s, t) ∈ uH env := by
 unfold look
 rw [← TK (Ve env) (Bp h), C9 _ _ _ (Bp h)]
theorem aiF {env : Env} (h : bX env = true) : Ev (fun n => xM n env) (fD (uH env) []) := by
 obtain ⟨hc8, hn64, _, _, _⟩ := qQ h
 unfold xM
 have hin : ∀ (c : Carrier) (m : List (Str × Ty)), c.elems.length ≤ 8 → m.length ≤ 10000 → Ev (fun n => lF n c n (0, m)) (.nx (fD (c.elems.map fun e => (e, vU c.name)) m)) := fun c m hce hm => by
  have h1 := kD (ρ := List (Str × Ty)) c.elems (fun n k i s => lF n c k (i, s)) (fun n x s => xC s x (vU c.name)) (fun x s => jN s x (vU c.name)) (fun s => s) (fun suf s => s.length + suf.length ≤ 10008)
   (fun n k i s => rfl)
   (fun x suf s hx hs => by
    simp only [List.length_cons] at hs
    refine ⟨?_, ?_⟩
    ·rw [Ep (by omega)]; exact Ev.ret _
    ·have := zO s x (vU c.name); omega) (s0 := m) (by omega)
  have hf : ∀ (es : List Str) (m : List (Str × Ty)), es.foldl (fun s x => jN s x (vU c.name)) m = fD (es.map fun e => (e, vU c.name)) m := by
   intro es
   induction es with
   | nil => intro m; rfl
   | cons e es ih => intro m; rw [List.foldl_cons, ih]; rfl
  rw [hf] at h1
  exact h1
 have h1 := IQ env.carriers (fun n k i s => tL n env k (i, s)) (fun n x s => (xC s x.name (aW (vU x.name))).bind fun x4 => (lF n x n (0, x4)).bind (LR.el (fun s6 => some (.nx s6)) (fun r => some (.rt r)))) (fun x s => .nx (fD (l5 x) s)) (fun s => s)
  (fun suf s => s.length + 9 * suf.length ≤ 100)
  (fun n k i s => by
   show cond _ _ _ = _
   congr 1
   show (idx env.carriers i).bind _ = _
   congr 1
   funext x
   show (xC s x.name (aW (vU x.name))).bind _ = _
   cases xC s x.name (aW (vU x.name)) with
   | none => rfl
   | some y =>
    simp only [Option.bind_some]
    cases lF n x n (0, y) with
    | none => rfl
    | some r => cases r <;> rfl)
  (fun x suf s hx hs => by
   simp only [List.length_cons] at hs
   have hx8 := (Mr h hx).2.1
   refine ⟨?_, fun s' he => ?_⟩
   ·rw [Ep (by omega)]
    simp only [Option.bind_some]
    have := zO s x.name (aW (vU x.name))
    exact Ev.bind (hin x _ hx8 (by omega)) (Ev.ret _)
   ·cases he
    have := Eb (l5 x) s
    simp only [l5, List.length_cons, List.length_map] at this ⊢
    omega) (s0 := ([] : List (Str × Ty))) (by simp only [List.length_nil]; omega)
 rw [Nw] at h1
 have hf1 : ∀ (cs : List Carrier) (m : List (Str × Ty)), cs.foldl (fun s x => fD (l5 x) s) m = fD (cs.flatMap l5) m := by
  intro cs
  induction cs with
  | nil => intro m; rfl
  | cons c cs ih => intro m; rw [List.foldl_cons, ih, List.flatMap_cons, KQ]
 rw [hf1] at h1
 have hl1 : (fD (env.carriers.flatMap l5) []).length ≤ 100 := by
  have key : ∀ cs : List Carrier, (∀ c ∈ cs, c.elems.length ≤ 8) → (cs.flatMap l5).length ≤ 9 * cs.length := by
   intro cs
   induction cs with
   | nil => intro _; simp
   | cons c cs ih =>
    intro hh
    have a := hh c (List.mem_cons_self ..)
    have b := ih fun c hc => hh c (List.mem_cons_of_mem _ hc)
    simp only [List.flatMap_cons, List.length_append, l5, List.length_cons, List.length_map] at b ⊢
    omega
  have a := key env.carriers fun c hc => (Mr h hc).2.1
  have b := Eb (env.carriers.flatMap l5) []
  simp only [List.length_nil] at b
  omega
 have h2 := kD (ρ := List (Str × Ty)) env.names (fun n k i s => tJ n env k (i, s)) (fun n x s => xC s x.name x.ty) (fun x s => jN s x.name x.ty) (fun s => s) (fun suf s => s.length + suf.length ≤ 1000)
  (fun n k i s => rfl)
  (fun x suf s hx hs => by
   simp only [List.length_cons] at hs
   refine ⟨?_, ?_⟩
   ·rw [Ep (by omega)]; exact Ev.ret _
   ·have := zO s x.name x.ty; omega) (s0 := fD (env.carriers.flatMap l5) []) (by omega)
 have hf2 : ∀ (ds : List Decl) (m : List (Str × Ty)), ds.foldl (fun s x => jN s x.name x.ty) m = fD (ds.map fun d => (d.name, d.ty)) m := by
  intro ds
  induction ds with
  | nil => intro m; rfl
  | cons e es ih => intro m; rw [List.foldl_cons, ih]; rfl
 rw [hf2, ← KQ] at h2
 exact Ev.bind h1 (Ev.bind h2 (Ev.ret _))
def bA : Ty := .mk 0 [] []
theorem Gj {α β : Type} (f : α → Str) (g : α → β) (l : List α) (k : Str) : eP (l.map fun x => (f x, g x)) k = (l.find? fun x => f x == k).map g := by
 induction l with
 | nil => rfl
 | cons x l ih =>
  rw [List.map_cons, jm, List.find?_cons, ih]
  cases f x == k <;> rfl
def oO (env : Env) : Bool := !(decide (200 < (env.carriers.length : Int)) || decide (200 < (env.names.length : Int))) && !(env.carriers.any fun c => decide (200 < (c.elems.length : Int)))
theorem vN (env : Env) : Ev (fun n => tZ n env) (oO env) := by
 unfold tZ oO
 have h := kJ env.carriers (fun n k i => zf n env k i) (fun _ x => some (decide (200 < (x.elems.length : Int)))) (fun x => decide (200 < (x.elems.length : Int))) false (fun n k i => rfl) (fun x _ => Ev.ret _)
 cases decide (200 < (env.carriers.length : Int)) with
 | true => exact Ev.ret _
 | false =>
  cases decide (200 < (env.names.length : Int)) with
  | true => exact Ev.ret _
  | false =>
   simp only [cond_false, Option.bind_some, Bool.or_false, Bool.not_false, Bool.true_and]
   refine Ev.bind h ?_
   cases env.carriers.any fun c => decide (200 < (c.elems.length : Int))
   ·exact Ev.ret _
   ·exact Ev.ret _
theorem alk {α β γ : Type} (l : List α) (l' : List β) (i : Int) (F : α → β → Option γ) : ((idx l i).bind fun x => (idx l' i).bind fun y => F x y) = (idx (l.zip l') i).bind fun p => F p.1 p.2 := by
 unfold idx
 by_cases h : 0 ≤ i
 ·simp only [if_pos h, List.zip, List.getElem?_zipWith]
  cases l[i.toNat]? <;> cases l'[i.toNat]? <;> rfl
 ·simp only [if_neg h]; rfl
theorem ZG {α β ρ : Type} (l : List α) (l' : List β) (hlen : l.length = l'.length) (L : Nat → Nat → Int → Option (LR Unit ρ)) (step : Nat → α → β → Option Bool) (p : α → β → Bool) (r : ρ)
  (hL : ∀ n k i, L n (k + 1) i = cond (decide (i < (l.length : Int))) ((idx l i).bind fun x => (idx l' i).bind fun y => (step n x y).bind fun b => cond b (some (.rt r)) (L n k (i + 1))) (some (.nx ())))
  (hp : ∀ x ∈ l, ∀ y, Ev (fun n => step n x y) (p x y)) : Ev (fun n => L n n 0) (cond ((l.zip l').any fun q => p q.1 q.2) (.rt r) (.nx ())) := by
 refine kJ (l.zip l') L (fun n q => step n q.1 q.2) (fun q => p q.1 q.2) r (fun n k i => ?_) (fun q hq => hp q.1 (List.of_mem_zip hq).1 q.2)
 rw [hL, ← alk l l' i fun x y => (step n x y).bind fun b => cond b (some (.rt r)) (L n k (i + 1))]
 have : ((l.zip l').length : Int) = (l.length : Int) := by rw [List.length_zip, ← hlen, Nat.min_self]
 rw [this]
mutual
def bM : Ty → Ty → Bool
 | .mk k n ks, .mk k' n' ks' => (k == k') && ((n == n') && vL ks ks')
def vL : List Ty → List Ty → Bool
 | [], [] => true
 | [], _ :: _ => false
 | _ :: _, [] => false
 | a :: ar, b :: br => bM a b && vL ar br
end
mutual
theorem wH : ∀ a b : Ty, bM a b = true → a = b
 | .mk k n ks, .mk k' n' ks', h => by
  simp only [bM, Bool.and_eq_true, beq_iff_eq] at h
  obtain ⟨h1, h2, h3⟩ := h
  rw [h1, h2, aaW ks ks' h3]
theorem aaW : ∀ a b : List Ty, vL a b = true → a = b
 | [], [], _ => rfl
 | [], _ :: _, h => by cases h
 | _ :: _, [], h => by cases h
 | a :: ar, b :: br, h => by
  simp only [vL, Bool.and_eq_true] at h
  rw [wH a b h.1, aaW ar br h.2]
end
mutual
theorem Ah : ∀ a : Ty, bM a a = true
 | .mk k n ks => by simp only [bM, beq_self_eq_true, Vn ks, Bool.and_self]
theorem Vn : ∀ a : List Ty, vL a a = true
 | [] => rfl
 | a :: ar => by simp only [vL, Ah a, Vn ar, Bool.and_self]
end
theorem Nv : ∀ l l' : List Ty, l.length = l'.length → (l.zip l').any (fun q => !(bM q.1 q.2)) = !(vL l l')
 | [], [], _ => rfl
 | [], _ :: _, h => by cases h
 | _ :: _, [], h => by cases h
 | a :: ar, b :: br, h => by
  have := Nv ar br (by simpa using h)
  simp only [List.zip_cons_cons, List.any_cons, this, vL]
  cases bM a b <;> rfl
theorem OB : ∀ l l' : List Ty, l.length ≠ l'.length → vL l l' = false
 | [], [], h => absurd rfl h
 | [], _ :: _, _ => rfl
 | _ :: _, [], _ => rfl
 | a :: ar, b :: br, h => by
  have := OB ar br (by simpa using h)
  simp only [vL, this, Bool.and_false]
theorem anV {α β : Type} (l : List α) (l' : List β) : ((l.length : Int) != (l'.length : Int)) = !(l.length == l'.length) := aaK l.length l'.length
theorem gL : ∀ t u : Ty, Ev (fun n => bO n t u) (bM t u) := Ty.ind fun k nm ks ih u => by
 obtain ⟨k', nm', ks'⟩ := u
 refine Ev.succ ?_
 show Ev (fun n => lZ n _ (.mk k nm ks) (.mk k' nm' ks')) _
 unfold lZ
 simp only [Ty.kind, Ty.name, Ty.kids, bM, bne, anV]
 cases k == k' with
 | false => exact Ev.ret _
 | true =>
  cases nm == nm' with
  | false => exact Ev.ret _
  | true =>
   simp only [Bool.not_true, cond_false, Option.bind_some, Bool.true_and]
   cases hl : (ks.length : Int) == (ks'.length : Int) with
   | false =>
    have : ks.length ≠ ks'.length := fun e => by simp [e] at hl
    rw [OB ks ks' this]
    exact Ev.ret _
   | true =>
    have hlen : ks.length = ks'.length := by have := beq_iff_eq.1 hl; omega
    simp only [Bool.not_true, cond_false]
    have h := ZG ks ks' hlen (fun n k'' i => qZ n (fun p0 p1 => bO n p0 p1) (.mk k nm ks) (.mk k' nm' ks') k'' i) (fun n x y => (bO n x y).bind fun b => some (!b)) (fun x y => !(bM x y)) false
     (fun n k'' i => by
      show cond _ _ _ = _
      congr 1
      show (idx ks i).bind _ = _
      congr 1
      funext x
      show (idx ks' i).bind _ = _
      congr 1
      funext y
      simp only [Option.bind_assoc, Option.bind_some])
     (fun x hx y => Ev.bind (ih x hx y) (Ev.ret _))
    rw [Nv ks ks' hlen] at h
    refine Ev.bind h ?_
    cases vL ks ks'
    ·exact Ev.ret _
    ·exact Ev.ret _
theorem xw : ∀ t u : Ty, Ev (fun n => fH n t u) (bM t u) := Ty.ind fun k nm ks ih u => by
 obtain ⟨k', nm', ks'⟩ := u
 refine Ev.succ ?_
 show Ev (fun n => ql n _ _ (.mk k nm ks) (.mk k' nm' ks')) _
 unfold ql
 simp only [Ty.kind, Ty.name, Ty.kids, bM]
 cases k == k' with
 | false => exact Ev.ret _
 | true =>
  cases nm == nm' with
  | false => exact Ev.ret _
  | true =>
   simp only [cond_true, Bool.true_and]
   refine Ev.bind (a := vL ks ks') (Ev.bind (a := vL ks ks') (Ev.succ ?_) (Ev.ret _)) (Ev.ret _)
   show Ev (fun n => jv n _ _ ks ks') _
   unfold jv
   simp only [bne]
   cases hl : (ks.length : Int) == (ks'.length : Int) with
   | false =>
    have : ks.length ≠ ks'.length := fun e => by simp [e] at hl
    rw [OB ks ks' this]
    exact Ev.ret _
   | true =>
    have hlen : ks.length = ks'.length := by have := beq_iff_eq.1 hl; omega
    simp only [Bool.not_true, cond_false]
    have h := ZG ks ks' hlen (fun n k'' i => kE n (fun p0 p1 => ko n p0 p1) (fun p0 p1 => fH n p0 p1) ks ks' k'' i) (fun n x y => (fH n x y).bind fun b => some (!b)) (fun x y => !(bM x y)) false
     (fun n k'' i => by
      show cond _ _ _ = _
      congr 1
      congr 1
      funext x
      congr 1
      funext y
      simp only [Option.bind_assoc, Option.bind_some])
     (fun x hx y => Ev.bind (ih x hx y) (Ev.ret _))
    rw [Nv ks ks' hlen] at h
    refine Ev.bind h ?_
    cases vL ks ks'
    ·exact Ev.ret _
    ·exact Ev.ret _
structure Joined (a b : Env) (cs : List Carrier) (ds : List Decl) : Prop where
 c1 : ∀ c ∈ a.carriers, c ∈ cs
 c2 : ∀ c ∈ b.carriers, c ∈ cs
 c3 : ∀ c ∈ cs, c ∈ a.carriers ∨ c ∈ b.carriers
 d1 : ∀ d ∈ a.names, d ∈ ds
 d2 : ∀ d ∈ b.names, d ∈ ds
 d3 : ∀ d ∈ ds, d ∈ a.names ∨ d ∈ b.names
 cl : cs.length ≤ a.carriers.length + b.carriers.length
 dl : ds.length ≤ a.names.length + b.names.length
theorem Tm.ind {P : Tm → Prop} (h : ∀ k n m t ks, (∀ t ∈ ks, P t) → P (.mk k n m t ks)) (t : Tm) : P t := by
 match t with
 | .mk k n m ty ks => exact h k n m ty ks fun u _ => Tm.ind h u
termination_by SizeOf.sizeOf t
decreasing_by
 rename_i hu
 have := List.sizeOf_lt_of_mem hu
 simp only [Tm.mk.sizeOf_spec]
 omega
def dw (op : Int) : Int :=
 cond ((op == 1 || (op == 2 || (op == 19 || (op == 20 || op == 29))))) 0
  (cond ((op == 3 || (op == 21 || (decide (46 ≤ op) && decide (op ≤ 52))))) 1 (cond (op == 28) (-1) (cond (decide (4 ≤ op) && decide (op ≤ 56)) 2 (-2))))
def bg (op : Int) : Bool := op == 8 || (op == 9 || (op == 55 || op == 56))
theorem orC (a b : Bool) : (cond a (some true) (some b)) = some (a || b) := by cases a <;> rfl
theorem orS (a b : Bool) : (cond a (some a) (some b)) = some (a || b) := by cases a <;> rfl
theorem afl (a b : Bool) : (cond a (some b) (some false)) = some (a && b) := by cases a <;> rfl
theorem afE (n : Nat) (op : Int) : Jo n op = some (dw op) := by
 unfold Jo dw
 simp only [orC, afl, Option.bind_some]
 cases (op == 1 || (op == 2 || (op == 19 || (op == 20 || op == 29)))) with
 | true => rfl
 | false =>
  cases (op == 3 || (op == 21 || (decide (46 ≤ op) && decide (op ≤ 52)))) with
  | true => rfl
  | false =>
   cases (op == 28) with
   | true => rfl
   | false => cases (decide (4 ≤ op) && decide (op ≤ 56)) <;> rfl
theorem anS (op : Int) : ((decide (46 ≤ op) && decide (op ≤ 51)) || op == 52) = (decide (46 ≤ op) && decide (op ≤ 52)) := by
 by_cases h1 : 46 ≤ op
 ·by_cases h2 : op ≤ 51
  ·simp [h1, h2, show op ≤ 52 by omega]
  ·by_cases h3 : op = 52
   ·subst h3; rfl
   ·simp [h2, h3, show ¬ op ≤ 52 by omega]
 ·simp [h1, show op ≠ 52 by omega]
theorem abU (n : Nat) (op : Int) : CW n op = some (cond (dw op == -2) (0, false) (dw op, true)) := by
 unfold CW dw
 simp only [orS, afl, Option.bind_some, anS]
 cases h1 : (op == 1 || (op == 2 || (op == 19 || (op == 20 || op == 29)))) with
 | true => rfl
 | false =>
  cases h2 : (op == 3 || (op == 21 || (decide (46 ≤ op) && decide (op ≤ 52)))) with
  | true => rfl
  | false =>
   cases (op == 28) with
   | true => rfl
   | false =>
    simp only [Bool.or_eq_false_iff, beq_eq_false_iff_ne] at h1 h2
    have e : (decide (1 ≤ op) && decide (op ≤ 56)) = (decide (4 ≤ op) && decide (op ≤ 56)) := by
     by_cases h : 4 ≤ op
     ·simp [h, show 1 ≤ op by omega]
     ·simp [h, show ¬ 1 ≤ op by omega]
    rw [e]
    cases (decide (4 ≤ op) && decide (op ≤ 56)) <;> rfl
theorem agp (n : Nat) (op : Int) : wG n op = some (bg op) := by
 unfold wG bg
 simp only [orC, Option.bind_some]
theorem xA (n : Nat) (op : Int) : kI n op = some (bg op) := by
 unfold kI bg
 simp only [orC, Option.bind_some]
def yj (t : Ty) : Bool := t.kind == 0 && (t.name == [] && (t.kids.length : Int) == 0)
theorem adg (n : Nat) (t : Ty) : vZ n t = some (yj t) := by
 unfold vZ yj
 simp only [afl, Option.bind_some]
theorem YN (n : Nat) (t : Ty) : yN n t = some (yj t) := by
 unfold yN yj
 simp only [afl, Option.bind_some]
def nW (t : Tm) : Bool := cond (t.op == 20) (named t.name) (cond (bg t.op) (ident t.name) (t.name == []))
def yE (t : Tm) : Bool := cond (t.op == 19) (decide (0 ≤ t.n) && decide (t.n ≤ 1000000000)) (t.n == 0)
def MP (t : Tm) : Bool := cond (t.op == 29) (bN t.ty && t.ty.kind != 2) (yj t.ty)
def uD (t : Tm) : Bool := !(dw t.op == -2) && cond (dw t.op == -1) (!((t.kids.length : Int) == 0)) ((t.kids.length : Int) == dw t.op)
def eB (t : Tm) : Bool := uD t && (nW t && (yE t && MP t))
theorem ag8 (t : Tm) (hs : t.name.length ≤ 9223372036854775807) : Ev (fun n => y8 n t) (eB t) := by
 unfold y8 eB
 simp only [abU, Option.bind_some]
 have hfirst : Ev (fun n => ((((cond (!(cond (dw t.op == -2) ((0 : Int), false) (dw t.op, true)).2) (some (!(cond (dw t.op == -2) ((0 : Int), false) (dw t.op, true)).2)) (((cond ((cond (dw t.op == -2) ((0 : Int), false) (dw t.op, true)).1 == (-1)) (some ((t.kids.length : Int) == 0)) (some false)) : Option Bool).bind fun (s6 : Bool) => (cond s6 (some s6) (cond ((cond (dw t.op == -2) ((0 : Int), false) (dw t.op, true)).1 != (-1)) (some ((t.kids.length : Int) != (cond (dw t.op == -2) ((0 : Int), false) (dw t.op, true)).1)) (some false))))) : Option Bool)).bind fun (s5 : Bool) => (cond s5 (some (.rt false)) (cond (t.op == 20) ((DY n t.name).bind fun (x4 : Bool) => some (.nx x4)) ((wG n t.op).bind fun (x5 : Bool) => (cond x5 ((fA n t.name).bind fun (x6 : Bool) => some (.nx x6)) (some (.nx (t.name == ([] : Str)))))))) : Option (LR Bool Bool))) (cond (uD t) (.nx (nW t)) (.rt false)) := by
  refine Ev.bind (a := !(uD t)) ?_ ?_
  ·refine Ev.of fun n => ?_
   unfold uD
   cases h2 : dw t.op == -2 with
   | true => rfl
   | false =>
    simp only [cond_false, Bool.not_true, Bool.not_false, Bool.true_and]
    cases h1 : dw t.op == -1 with
    | true =>
     simp only [cond_true, Option.bind_some, bne, h1, Bool.not_true, cond_false]
     cases (t.kids.length : Int) == 0 <;> rfl
    | false =>
     simp only [cond_false, Option.bind_some, bne, h1, Bool.not_false, cond_true]
  ·cases uD t with
   | false => exact Ev.ret _
   | true =>
    simp only [Bool.not_true, cond_false, cond_true, nW, agp, Option.bind_some]
    cases t.op == 20 with
    | true =>
     refine Ev.bind (a := named t.name) ?_ (Ev.ret _)
     exact Ra t.name hs
    | false =>
     cases bg t.op with
     | true => exact Ev.bind (oN _) (Ev.ret _)
     | false => exact Ev.ret _
 refine Ev.bind hfirst ?_
 cases uD t with
 | false => exact Ev.ret _
 | true =>
  simp only [cond_true, Bool.true_and]
  refine Ev.bind (a := nW t && yE t) ?_ ?_
  ·unfold yE
   refine Ev.of fun n => ?_
   cases t.op == 19 <;> cases nW t <;> cases decide (0 ≤ t.n) <;> rfl
  ·unfold MP
   cases t.op == 29 with
   | true =>
    simp only [cond_true]
    refine Ev.bind (a := nW t && (yE t && (bN t.ty && t.ty.kind != 2))) ?_ (Ev.ret _)
    cases nW t with
    | false => exact Ev.ret _
    | true =>
     cases yE t with
     | false => exact Ev.ret _
     | true =>
      simp only [Bool.true_and, cond_true]
      cases hk : t.ty.kind != 2 with
      | false => simp only [cond_false, Bool.and_false]; exact Ev.ret _
      | true => simp only [cond_true, Bool.and_true]; exact Ev.bind (jJ _) (Ev.ret _)
   | false =>
    simp only [cond_false, adg, Option.bind_some]
    refine Ev.of fun n => ?_
    cases nW t <;> cases yE t <;> rfl
theorem afe (t : Tm) : Ev (fun n => IW n t) (eB t) := by
 unfold IW eB
 simp only [afE, Option.bind_some]
 refine Ev.bind (a := !(uD t)) ?_ ?_
 ·refine Ev.of fun n => ?_
  unfold uD
  cases h2 : dw t.op == -2 with
  | true => rfl
  | false =>
   simp only [cond_false, Bool.not_true, Bool.not_false, Bool.true_and]
   cases h1 : dw t.op == -1 with
   | true =>
    have e : dw t.op = -1 := by simpa using h1
    rw [e]
    cases (t.kids.length : Int) == 0 <;> rfl
   | false =>
    have hge : decide (0 ≤ dw t.op) = true := by
     unfold dw at h1 h2 ⊢
     revert h1 h2
     cases (t.op == 1 || (t.op == 2 || (t.op == 19 || (t.op == 20 || t.op == 29)))) <;> cases (t.op == 3 || (t.op == 21 || (decide (46 ≤ t.op) && decide (t.op ≤ 52)))) <;> cases (t.op == 28) <;> cases (decide (4 ≤ t.op) && decide (t.op ≤ 56)) <;> intro h1 h2 <;> first | rfl | exact absurd h1 (by decide) | exact absurd h2 (by decide)
    simp only [cond_false, hge, cond_true, bne]
 ·cases uD t with
  | false => exact Ev.ret _
  | true =>
   simp only [Bool.not_true, cond_false, Bool.true_and]
   refine Ev.bind (a := cond (nW t) (.nx ()) (.rt false)) ?_ ?_
   ·unfold nW
    simp only [xA, Option.bind_some]
    cases t.op == 20 with
    | true =>
     refine Ev.bind (CB _) ?_
     simp only [cond_true]
     cases named t.name
     ·exact Ev.ret _
     ·exact Ev.ret _
    | false =>
     simp only [cond_false]
     cases bg t.op with
     | true =>
      refine Ev.bind (l7 _) ?_
      simp only [cond_true]
      cases ident t.name
      ·exact Ev.ret _
      ·exact Ev.ret _
     | false =>
      simp only [cond_false]
      cases t.name == ([] : Str)
      ·exact Ev.ret _
      ·exact Ev.ret _
   ·cases nW t with
    | false => exact Ev.ret _
    | true =>
     simp only [cond_true, Bool.true_and]
     refine Ev.bind (a := !(yE t)) ?_ ?_
     ·refine Ev.of fun n => ?_
      unfold yE
      cases h19 : t.op == 19 with
      | true =>
       simp only [cond_true, bne, h19, Bool.not_true, cond_false]
       by_cases h0 : t.n < 0
       ·rw [decide_eq_true h0, decide_eq_false (show ¬ 0 ≤ t.n by omega)]; rfl
       ·rw [decide_eq_false h0, decide_eq_true (show 0 ≤ t.n by omega)]
        by_cases hb : 1000000000 < t.n
        ·rw [decide_eq_true hb, decide_eq_false (show ¬ t.n ≤ 1000000000 by omega)]; rfl
        ·rw [decide_eq_false hb, decide_eq_true (show t.n ≤ 1000000000 by omega)]; rfl
      | false => simp only [cond_false, bne, h19, Bool.not_false, cond_true]
     ·cases yE t with
      | false => exact Ev.ret _
      | true =>
       simp only [Bool.not_true, cond_false, Bool.true_and]
       unfold MP
       cases t.op == 29 with
       | true =>
        simp only [cond_true]
        refine Ev.bind (a := bN t.ty && t.ty.kind != 2) (Ev.bind (jS _) ?_) (Ev.ret _)
        cases bN t.ty
        ·exact Ev.ret _
        ·exact Ev.ret _
       | false =>
        simp only [cond_false, YN, Option.bind_some]
        exact Ev.ret _
mutual
def mf : Tm → Int → Int → Bool × Int
 | .mk op nm m ty ks, d, c => cond ((decide (c + 1 ≤ 2000) && decide (d ≤ 64)) && eB (.mk op nm m ty ks)) (iW ks (d + 1) (c + 1)) (false, c + 1)
def iW : List Tm → Int → Int → Bool × Int
 | [], _, c => (true, c)
 | t :: ts, d, c => cond (mf t d c).1 (iW ts d (mf t d c).2) (false, (mf t d c).2)
end
mutual
theorem J7 : ∀ (t : Tm) (d c : Int), (mf t d c).1 = true → c < (mf t d c).2 ∧ (mf t d c).2 ≤ 2000
 | .mk op nm m ty ks, d, c, h => by
  simp only [mf] at h ⊢
  cases hb : ((decide (c + 1 ≤ 2000) && decide (d ≤ 64)) && eB (.mk op nm m ty ks)) with
  | false => rw [hb] at h; cases h
  | true =>
   rw [hb] at h
   simp only [cond_true] at h ⊢
   simp only [Bool.and_eq_true, decide_eq_true_eq] at hb
   have := Vz ks (d + 1) (c + 1) h
   omega
theorem Vz : ∀ (ts : List Tm) (d c : Int), (iW ts d c).1 = true → c ≤ (iW ts d c).2 ∧ (c ≤ 2000 → (iW ts d c).2 ≤ 2000)
 | [], _, c, _ => by simp [iW]
 | t :: ts, d, c, h => by
  simp only [iW] at h ⊢
  cases hb : (mf t d c).1 with
  | false => rw [hb] at h; cases h
  | true =>
   rw [hb] at h
   simp only [cond_true] at h ⊢
   have h1 := J7 t d c hb
   have h2 := Vz ts d _ h
   exact ⟨by omega, fun _ => h2.2 h1.2⟩
end
mutual
def fB : Tm → Prop
 | .mk _ nm _ _ ks => nm.length ≤ 9223372036854775807 ∧ zV ks
def zV : List Tm → Prop
 | [] => True
 | t :: ts => fB t ∧ zV ts
end
theorem abl : ∀ {ts : List Tm}, zV ts → ∀ t ∈ ts, fB t
 | [], _, t, h => by cases h
 | u :: ts, h, t, ht => by
  simp only [zV] at h
  rcases List.mem_cons.1 ht with rfl | ht
  ·exact h.1
  ·exact abl h.2 t ht
theorem ahB (n : Nat) (c d : Int) (h0 : 0 ≤ c) (h1 : c ≤ 2000) : je n c 2000 64 d = some (decide (c + 1 ≤ 2000) && decide (d ≤ 64), c + 1) := by
 unfold je
 rw [wrap64 (by omega) (by omega)]
 cases decide (c + 1 ≤ 2000) <;> rfl
def amt (t : Tm) : Prop := fB t → ∀ d c : Int, 1 ≤ d → d ≤ 65 → 0 ≤ c → c ≤ 2000 → Ev (fun n => fT n c 2000 64 t d) (mf t d c)
theorem aed (d : Int) : ∀ (ts : List Tm) (i c : Int), 0 ≤ i → (∃ j, 0 ≤ j ∧ (iW ts d c).1 = false ∧ dZ (τ := Int) (fun i x s => cond (!(mf x d s).1) (.rt (i, (mf x d s).2)) (.nx (mf x d s).2)) (fun s => s) i ts c = .rt (j, (iW ts d c).2)) ∨ ((iW ts d c).1 = true ∧ dZ (ρ := Int × Int) (fun i x s => cond (!(mf x d s).1) (.rt (i, (mf x d s).2)) (.nx (mf x d s).2)) (fun s => s) i ts c = .nx (iW ts d c).2)
 | [], i, c, _ => .inr ⟨rfl, rfl⟩
 | t :: ts, i, c, hi => by
  simp only [iW, dZ]
  cases hb : (mf t d c).1 with
  | false => exact .inl ⟨i, hi, rfl, rfl⟩
  | true => exact aed d ts (i + 1) _ (by omega)
theorem afu (ts : List Tm) (h : ∀ t ∈ ts, amt t) (hS : zV ts) (d c : Int) (hd : 1 ≤ d) (hd6 : d ≤ 64) (h0 : 0 ≤ c) (h1 : c ≤ 2000) : Ev (fun n => eO n ts c 2000 64 d) (!(iW ts (d + 1) c).1, (iW ts (d + 1) c).2) := by
 refine Ev.succ ?_
 show Ev (fun n => iL n _ _ _ _ ts c 2000 64 d) _
 unfold iL
 have hloop := Et ts (fun n k i s => kF n (fun p0 p1 p2 p3 p4 => gV n p0 p1 p2 p3 p4) (fun p0 p1 p2 p3 p4 => eO n p0 p1 p2 p3 p4) (fun p0 p1 p2 p3 p4 => fT n p0 p1 p2 p3 p4) (fun p0 p1 p2 p3 p4 => fq n p0 p1 p2 p3 p4) ts 2000 64 d k (i, s))
  (fun n i x s => (fq n x s 2000 64 d).bind fun x2 => cond x2.1 (some (.rt (i, x2.2))) (some (.nx x2.2))) (fun i x s => cond (!(mf x (d + 1) s).1) (.rt (i, (mf x (d + 1) s).2)) (.nx (mf x (d + 1) s).2)) (fun s => s) (fun _ _ s => 0 ≤ s ∧ s ≤ 2000)
  (fun n k i s => by
   show cond _ _ _ = _
   congr 1
   congr 1
   funext x
   dsimp only
   cases fq n x s 2000 64 d with
   | none => rfl
   | some b => obtain ⟨b, e⟩ := b; cases b <;> rfl)
  (fun i x suf s hx hs => ⟨by
   have hfit : Ev (fun n => fq n x s 2000 64 d) (!(mf x (d + 1) s).1, (mf x (d + 1) s).2) := by
    refine Ev.succ ?_
    show Ev (fun n => kM n _ _ _ _ x s 2000 64 d) _
    unfold kM
    have := h x hx (abl hS x hx) (d + 1) s (by omega) (by omega) hs.1 hs.2
    rw [wrap64 (by omega) (by omega)]
    exact Ev.bind this (Ev.ret _)
   refine Ev.bind hfit ?_
   cases (mf x (d + 1) s).1
   ·exact Ev.ret _
   ·exact Ev.ret _, fun s' he => by
    cases hb : (mf x (d + 1) s).1 with
    | false => rw [hb] at he; cases he
    | true =>
     rw [hb] at he
     simp only [Bool.not_true, cond_false, LR.nx.injEq] at he
     have := J7 x (d + 1) s hb
     omega⟩) (s0 := c) ⟨h0, h1⟩
 rcases aed (d + 1) ts 0 c (Int.le_refl _) with ⟨j, hj, hf, hr⟩ | ⟨ht, hr⟩
 ·rw [hr] at hloop
  refine Ev.bind (a := (j, (iW ts (d + 1) c).2)) (Ev.succ ?_) ?_
  ·show Ev (fun n => fQ n _ _ _ _ ts c 2000 64 d) _
   unfold fQ
   exact Ev.bind hloop (Ev.ret _)
  ·rw [hf]
   simp only [decide_eq_true hj]
   exact Ev.ret _
 ·rw [hr] at hloop
  refine Ev.bind (a := (-1, (iW ts (d + 1) c).2)) (Ev.succ ?_) ?_
  ·show Ev (fun n => fQ n _ _ _ _ ts c 2000 64 d) _
   unfold fQ
   exact Ev.bind hloop (Ev.ret _)
  ·rw [ht]
   exact Ev.ret _
theorem amO : ∀ t : Tm, amt t := Tm.ind fun op nm m ty ks ih hS d c hd hd7 h0 h1 => by
 refine Ev.succ ?_
 show Ev (fun n => lM n _ _ _ _ c 2000 64 (.mk op nm m ty ks) d) _
 unfold lM
 simp only [fB] at hS
 simp only [ahB _ c d h0 h1, Option.bind_some, mf]
 cases hb : (decide (c + 1 ≤ 2000) && decide (d ≤ 64)) with
 | false => exact Ev.ret _
 | true =>
  simp only [Bool.and_eq_true, decide_eq_true_eq] at hb
  simp only [Bool.not_true, cond_false, Bool.true_and]
  refine Ev.bind (a := (!(eB (.mk op nm m ty ks)), c + 1)) (Ev.bind (ag8 (.mk op nm m ty ks) hS.1) (Ev.ret _)) ?_
  cases eB (.mk op nm m ty ks) with
  | false => exact Ev.ret _
  | true =>
   simp only [Bool.not_true, cond_false, cond_true]
   refine Ev.bind (afu ks ih hS.2 d (c + 1) hd hb.2 (by omega) hb.1) ?_
   simp only [Bool.not_not]
   exact Ev.ret _
def bV (t : Tm) : Bool := (mf t 1 0).1
theorem Dt (t : Tm) (hS : fB t) : Ev (fun n => vM n t) (bV t) := by
 unfold vM
 exact Ev.bind (amO t hS 1 0 (by omega) (by omega) (by omega) (by omega)) (Ev.ret _)
def mt (t : Tm) (d c : Int) : Int := cond (mf t d c).1 (mf t d c).2 (-1)
def al4 (t : Tm) : Prop := ∀ d c : Int, 1 ≤ d → d ≤ 65 → 0 ≤ c → c ≤ 2000 → Ev (fun n => rz n t d c) (mt t d c)
theorem ady (d : Int) : ∀ (ts : List Tm) (c : Int), 0 ≤ c → zD (τ := Int) (fun x s => cond (decide (mt x d s < 0)) (.rt (-1)) (.nx (mt x d s))) (fun s => s) ts c = cond (iW ts d c).1 (.nx (iW ts d c).2) (.rt (-1))
 | [], c, _ => rfl
 | t :: ts, c, h0 => by
  simp only [iW, zD]
  by_cases hb : (mf t d c).1 = true
  ·have h1 := J7 t d c hb
   have h2 : mt t d c = (mf t d c).2 := by simp only [mt, hb, cond_true]
   have h3 : decide ((mf t d c).2 < 0) = false := decide_eq_false (by omega)
   simp only [h2, h3, hb, cond_true, cond_false]
   exact ady d ts (mf t d c).2 (by omega)
  ·have hb' : (mf t d c).1 = false := by simpa using hb
   have h2 : mt t d c = -1 := by simp only [mt, hb', cond_false]
   have h3 : decide (mt t d c < 0) = true := decide_eq_true (by omega)
   simp only [h3, hb', cond_true, cond_false]
theorem nodes : ∀ t : Tm, al4 t := Tm.ind fun op nm m ty ks ih d c hd hd7 h0 h1 => by
 refine Ev.succ ?_
 show Ev (fun n => wu n _ (.mk op nm m ty ks) d c) _
 unfold wu
 simp only [mt, mf]
 rw [wrap64 (by omega) (by omega)]
 by_cases hd6 : d ≤ 64
 case neg =>
  rw [decide_eq_true (show 64 < d by omega), decide_eq_false hd6]
  simp only [Bool.and_false, Bool.false_and, cond_false]
  exact Ev.ret _
 by_cases hc : c + 1 ≤ 2000
 case neg =>
  rw [decide_eq_false (show ¬ 64 < d by omega), decide_eq_true (show 2000 < c + 1 by omega), decide_eq_false hc]
  simp only [Bool.false_and, cond_false, cond_true]
  exact Ev.ret _
 rw [decide_eq_false (show ¬ 64 < d by omega), decide_eq_false (show ¬ 2000 < c + 1 by omega), decide_eq_true hd6, decide_eq_true hc]
 simp only [cond_false, Bool.true_and]
 refine Ev.bind (a := !(eB (.mk op nm m ty ks))) (Ev.bind (afe _) (Ev.ret _)) ?_
 cases eB (.mk op nm m ty ks) with
 | false => exact Ev.ret _
 | true =>
  simp only [Bool.not_true, cond_false, cond_true]
  have hloop := IQ ks (fun n k' i s => y9 n (fun p0 p1 p2 => rz n p0 p1 p2) (.mk op nm m ty ks) d k' (s, i)) (fun n x s => (rz n x (IntKind.wrap .i64 (d + 1)) s).bind fun x2 => cond (decide (x2 < 0)) (some (.rt (-1))) (some (.nx x2)))
   (fun x s => cond (decide (mt x (d + 1) s < 0)) (.rt (-1)) (.nx (mt x (d + 1) s))) (fun s => s) (fun _ s => 0 ≤ s ∧ s ≤ 2000)
   (fun n k' i s => by
    show cond _ _ _ = _
    congr 1
    show (idx ks i).bind _ = _
    congr 1
    funext x
    dsimp only
    cases rz n x (IntKind.wrap .i64 (d + 1)) s with
    | none => rfl
    | some b => simp only [Option.bind_some]; cases decide (b < 0) <;> rfl)
   (fun x suf s hx hs => ⟨by
    rw [wrap64 (by omega) (by omega)]
    refine Ev.bind (ih x hx (d + 1) s (by omega) (by omega) hs.1 hs.2) ?_
    cases decide (mt x (d + 1) s < 0)
    ·exact Ev.ret _
    ·exact Ev.ret _, fun s' he => by
     cases hb : decide (mt x (d + 1) s < 0) with
     | true => rw [hb] at he; cases he
     | false =>
      rw [hb] at he
      simp only [cond_false, LR.nx.injEq] at he
      have hneg : ¬ mt x (d + 1) s < 0 := of_decide_eq_false hb
      subst he
      unfold mt at hneg ⊢
      cases hb2 : (mf x (d + 1) s).1 with
      | false => rw [hb2] at hneg; simp at hneg
      | true => have := J7 x (d + 1) s hb2; simp only [cond_true]; omega⟩) (s0 := c + 1) ⟨by omega, hc⟩
  rw [ady _ _ _ (by omega)] at hloop
  refine Ev.bind hloop ?_
  cases (iW ks (d + 1) (c + 1)).1
  ·exact Ev.ret _
  ·exact Ev.ret _
theorem lI (t : Tm) : Ev (fun n => l6 n t) (bV t) := by
 unfold l6
 refine Ev.bind (nodes t 1 0 (by omega) (by omega) (by omega) (by omega)) ?_
 unfold mt bV
 cases hb : (mf t 1 0).1 with
 | false => exact Ev.ret _
 | true =>
  have := J7 t 1 0 hb
  simp only [cond_true]
  rw [decide_eq_true (by omega)]
  exact Ev.ret _
end Abs
end Go.Proofs.YtiiaccpcoclklaaGreat
namespace Go.Proofs.YtiiaccpcoclklaaGreat
namespace Abs
open Go Go.Proofs Go.Deep Go.WideShapes
instance : Inhabited Tm := ⟨.mk 0 [] 0 (.mk 0 [] []) []⟩
theorem abw : Tryz.prog.cellsOf 31 = 7 := by kernel_rfl
theorem an8 : Tryz.prog.cellsOf 29 = 1 := by kernel_rfl
theorem MK (t : Tm) : (aO t).length = 7 := by rw [aR]; rfl
section
variable {H : Type} {enc : TypeId × Value → H} {w : World} {base : Nat} {spare : Nat → Bool} {held : Bool} {κ : cB} {pv : fZ}
set_option maxRecDepth 100000 in
theorem ru (hpv : ∀ b o, ¬ pv b o) (fuel : Nat) : Reads enc Tryz.prog w base spare held κ pv 31 aO fuel := by
 induction fuel using Nat.strongRecOn with
 | _ fuel ih =>
  intro cs x h
  obtain ⟨xs, n, rfl, _, hl, hlen, hf⟩ := DataW.trod_struct Tryz.underlying31 h
  rw [abw] at hl
  match cs, hl with
  | [c0, c1, c2, c3, c4, c5, c6], _ =>
   obtain ⟨y0, e0⟩ := u6 (i := 0) hlen (by decide)
   obtain ⟨y1, e1⟩ := u6 (i := 1) hlen (by decide)
   obtain ⟨y2, e2⟩ := u6 (i := 2) hlen (by decide)
   obtain ⟨y3, e3⟩ := u6 (i := 3) hlen (by decide)
   obtain ⟨y4, e4⟩ := u6 (i := 4) hlen (by decide)
   have h0 := hf 0 _ rfl
   have h1 := hf 1 _ rfl
   have h2 := hf 2 _ rfl
   have h3 := hf 3 _ rfl
   have h4 := hf 4 _ rfl
   simp only [e0, cl3, List.drop_zero, List.take_succ_cons, List.take_zero] at h0
   simp only [e1, cl9, List.drop_succ_cons, List.drop_zero, List.take_succ_cons, List.take_zero] at h1
   simp only [e2, cl3, List.drop_succ_cons, List.drop_zero, List.take_succ_cons, List.take_zero] at h2
   simp only [e3, afS, List.drop_succ_cons, List.drop_zero, List.take_succ_cons, List.take_zero] at h3
   simp only [e4, an8, List.drop_succ_cons, List.drop_zero, List.take_succ_cons, List.take_zero] at h4
   obtain ⟨k, hk⟩ := Gl (κ := κ) (pv := pv) Tryz.underlying3 n _ _ h0
   obtain ⟨nm, hn⟩ := Ak (κ := κ) (pv := pv) Tryz.underlying9 n _ _ h1
   obtain ⟨m, hm⟩ := Gl (κ := κ) (pv := pv) Tryz.underlying3 n _ _ h2
   obtain ⟨t, ht⟩ := FE hpv n _ _ h3
   obtain ⟨ks, hks⟩ := wN (f := aO) Tryz.underlying29 abw (by decide) MK hpv (fun m hm => ih m (by omega)) _ _ h4
   refine ⟨.mk k nm m t ks, ?_⟩
   have := hk.app (hn.app (hm.app (ht.app hks)))
   rw [aL] at this
   rw [aR]
   exact this
end
theorem adq : ∀ {ts : List Tm}, (∀ t ∈ ts, fB t) → zV ts
 | [], _ => trivial
 | t :: ts, h => by
  simp only [zV]
  exact ⟨h t (List.mem_cons_self ..), adq fun u hu => h u (List.mem_cons_of_mem _ hu)⟩
theorem agE {w : World} {κ : cB} {pv : fZ} {ts : List Tm} {u : Value} (ih : ∀ t ∈ ts, ∀ f : Nat → Value, (∀ j, j < 7 → Rel w κ pv ((aO t).getD j .unk) (f j)) → fB t) (h : Rel w κ pv (.slice (ts.map aO) .shared) u) : ∀ t ∈ ts, fB t := by
 intro t ht
 obtain ⟨i, hi, rfl⟩ := List.mem_iff_getElem.1 ht
 cases h with
 | slice b off sz f h1 h2 h3 h3' h4 h5 h6 _ =>
  have hi' : i < (ts.map aO).length := by simpa using hi
  have eg : (ts.map aO).getD i [] = aO ts[i] := by simp [List.getD, List.getElem?_map, List.getElem?_eq_getElem hi]
  have hsz := h1 i hi'
  rw [eg, MK] at hsz
  refine ih _ (List.getElem_mem hi) (f i) fun j hj => ?_
  have := h6 i j hi' (by omega)
  rw [eg] at this
  exact this
theorem JY {w : World} {κ : cB} {pv : fZ} : ∀ t : Tm, ∀ f : Nat → Value, (∀ j, j < 7 → Rel w κ pv ((aO t).getD j .unk) (f j)) → fB t := Tm.ind fun op nm m ty ks ih f h => by
 have h1 := h 1 (by decide)
 have h6 := h 6 (by decide)
 rw [aR] at h1 h6
 simp only [fB]
 refine ⟨?_, adq (agE ih h6)⟩
 have h1' : Rel w κ pv (.str nm) (f 1) := h1
 generalize f 1 = g at h1'
 cases h1'
 assumption
theorem wY {t : Tm} {w : World} {κ : cB} {pv : fZ} {v : Value} (h : Rel w κ pv (.agg (aO t)) v) : fB t := by
 cases h with
 | @agg _ vs hl hj => exact JY t (fun j => vs.getD j undef) fun j h => hj j (by rw [MK]; exact h)
end Abs
end Go.Proofs.YtiiaccpcoclklaaGreat
namespace Go.Proofs.YtiiaccpcoclklaaGreat
namespace Abs
open Go
def cu : Ty := .mk 2 [] []
def gF : Ty := .mk 1 [] []
def cO (a b : Ty) : Ty := .mk 4 [] [a, b]
inductive Good : Ty → Prop where
 | int : Good gF
 | car (nm : Str) : Good (vU nm)
 | pair {a b : Ty} : Good a → Good b → Good (cO a b)
 | set {a : Ty} : Good a → Good (aW a)
def Top (t : Ty) : Prop := t = cu ∨ Good t
mutual
theorem ak0 : ∀ (t : Ty) (d c : Int), 1 < d → (pf t d c).1 = true → Good t
 | .mk k nm ks, d, c, hd, h => by
  simp only [pf] at h
  cases hb : ((decide (c + 1 ≤ 16) && decide (d ≤ 6)) && eU k nm ks.length d) with
  | false => rw [hb] at h; cases h
  | true =>
   rw [hb] at h
   simp only [cond_true] at h
   have hk := Tp ks (d + 1) (c + 1) (by omega) h
   simp only [Bool.and_eq_true, eU, decide_eq_true_eq, Bool.or_eq_true, beq_iff_eq, Bool.not_eq_true', Bool.and_eq_false_iff, beq_eq_false_iff_ne, decide_eq_false_iff_not] at hb
   obtain ⟨_, h2, h3, h4⟩ := hb
   have hk2 : k ≠ 2 := by rcases h2 with h2 | h2 <;> omega
   rcases h3 with ⟨h5, h6⟩ | ⟨h5, h6⟩ | ⟨h5, h6⟩
   ·have hks : ks = [] := List.length_eq_zero_iff.1 h6
    subst hks
    rcases h5 with rfl | rfl | rfl
    ·have : nm = [] := by simpa using h4
     subst this; exact .int
    ·exact absurd rfl hk2
    ·exact .car nm
   ·subst h5
    have : nm = [] := by simpa using h4
    subst this
    match ks, h6, hk with
    | [a, b], _, hk => exact .pair (hk a (by simp)) (hk b (by simp))
   ·subst h5
    have : nm = [] := by simpa using h4
    subst this
    match ks, h6, hk with
    | [a], _, hk => exact .set (hk a (by simp))
theorem Tp : ∀ (ts : List Ty) (d c : Int), 1 < d → (iX ts d c).1 = true → ∀ t ∈ ts, Good t
 | [], _, _, _, _, t, ht => by cases ht
 | u :: ts, d, c, hd, h, t, ht => by
  simp only [iX] at h
  cases hb : (pf u d c).1 with
  | false => rw [hb] at h; cases h
  | true =>
   rw [hb] at h
   rcases List.mem_cons.1 ht with he | ht
   ·rw [he]; exact ak0 u d c hd hb
   ·exact Tp ts d _ hd h t ht
end
theorem ZQ {t : Ty} (h : bN t = true) : Top t := by
 obtain ⟨k, nm, ks⟩ := t
 unfold bN at h
 simp only [pf] at h
 cases hb : ((decide ((0 : Int) + 1 ≤ 16) && decide ((1 : Int) ≤ 6)) && eU k nm ks.length 1) with
 | false => rw [hb] at h; cases h
 | true =>
  rw [hb] at h
  simp only [cond_true] at h
  have hk := Tp ks (1 + 1) (0 + 1) (by omega) h
  simp only [Bool.and_eq_true, eU, decide_eq_true_eq, Bool.or_eq_true, beq_iff_eq, Bool.not_eq_true', Bool.and_eq_false_iff, beq_eq_false_iff_ne, decide_eq_false_iff_not] at hb
  obtain ⟨_, _, h3, h4⟩ := hb
  rcases h3 with ⟨h5, h6⟩ | ⟨h5, h6⟩ | ⟨h5, h6⟩
  ·have hks : ks = [] := List.length_eq_zero_iff.1 h6
   subst hks
   rcases h5 with rfl | rfl | rfl
   ·have : nm = [] := by simpa using h4
    subst this; exact .inr .int
   ·have : nm = [] := by simpa using h4
    subst this; exact .inl rfl
   ·exact .inr (.car nm)
  ·subst h5
   have : nm = [] := by simpa using h4
   subst this
   match ks, h6, hk with
   | [a, b], _, hk => exact .inr (.pair (hk a (by simp)) (hk b (by simp)))
  ·subst h5
   have : nm = [] := by simpa using h4
   subst this
   match ks, h6, hk with
   | [a], _, hk => exact .inr (.set (hk a (by simp)))
theorem akB {t : Ty} (h : Good t) : Bb t = true := by
 induction h with
 | int => rfl
 | car nm => rfl
 | pair _ _ h1 h2 => simp [cO, Bb, Ie, h1, h2]
 | set _ h1 => simp [aW, Bb, Ie, h1]
theorem ag6 {t : Ty} (h : Top t) : Bb t = true := by
 rcases h with rfl | h
 ·rfl
 ·exact akB h
def bL (t : Ty) : Option Ty := cond (t.kind == 5) t.kids.head? none
def eH (t : Ty) : Option (Ty × Ty) := (bL t).bind fun p => cond (p.kind == 4) (p.kids.head?.bind fun a => (p.kids.drop 1).head?.map fun b => (a, b)) none
theorem Cq (a : Ty) : bL (aW a) = some a := rfl
theorem abJ (a b : Ty) : eH (aW (cO a b)) = some (a, b) := rfl
theorem xL {t : Ty} (h : Top t) : (∃ e, t = aW e ∧ Good e) ∨ ((t.kind == 5) = false ∧ bL t = none ∧ eH t = none) := by
 rcases h with rfl | h
 ·exact .inr ⟨rfl, rfl, rfl⟩
 ·cases h with
  | int => exact .inr ⟨rfl, rfl, rfl⟩
  | car nm => exact .inr ⟨rfl, rfl, rfl⟩
  | pair _ _ => exact .inr ⟨rfl, rfl, rfl⟩
  | set h => exact .inl ⟨_, rfl, h⟩
theorem agW {t : Ty} (h : Top t) : (∃ a b, t = aW (cO a b) ∧ Good a ∧ Good b) ∨ eH t = none := by
 rcases xL h with ⟨e, rfl, he⟩ | ⟨_, _, h⟩
 ·cases he with
  | int => exact .inr rfl
  | car nm => exact .inr rfl
  | pair h1 h2 => exact .inl ⟨_, _, rfl, h1, h2⟩
  | set h => exact .inr rfl
 ·exact .inr h
theorem l9 {t e : Ty} (h : Top t) (he : bL t = some e) : Good e ∧ t = aW e := by
 rcases xL h with ⟨e', rfl, hg⟩ | ⟨_, h, _⟩
 ·rw [Cq] at he; cases he; exact ⟨hg, rfl⟩
 ·rw [h] at he; cases he
theorem nP {t a b : Ty} (h : Top t) (he : eH t = some (a, b)) : Good a ∧ Good b ∧ t = aW (cO a b) := by
 rcases agW h with ⟨a', b', rfl, hg⟩ | h
 ·rw [abJ] at he; cases he; exact ⟨hg.1, hg.2, rfl⟩
 ·rw [h] at he; cases he
def elP (o : Option Ty) : Ty × Bool := match o with | some e => (e, true) | none => (bA, false)
def siP (o : Option (Ty × Ty)) : Ty × Ty × Bool := match o with | some e => (e.1, e.2, true) | none => (bA, bA, false)
theorem iC (n : Nat) {t : Ty} (h : Top t) : dn n t = some (elP (bL t)) := by
 rcases xL h with ⟨e, rfl, _⟩ | ⟨h1, h2, _⟩
 ·rfl
 ·unfold dn
  rw [h2, bne, h1]
  rfl
theorem uj (n : Nat) {t : Ty} (h : Top t) : iA n t = some (siP (eH t)) := by
 unfold iA
 rw [iC n h]
 rcases xL h with ⟨e, rfl, he⟩ | ⟨_, h2, h3⟩
 ·cases he <;> rfl
 ·rw [h2, h3]; rfl
def bH (b : Bool) (t : Ty) : Option Ty := cond b (some t) none
def vo (q : Int) (l : List Ty) : Bool := l.all fun x => x.kind == q
def jB (op : Int) (l : List Ty) : Option Ty :=
 let a := l.headD bA
 let b := (l.drop 1).headD bA
 cond (decide (op ≤ 2)) (some cu) <|
 cond (decide (op ≤ 7)) (bH (vo 2 l) cu) <|
 cond (decide (op ≤ 9)) (bH ((bL a).isSome && b.kind == 2) cu) <|
 cond (decide (op ≤ 11)) (bH (a.kind != 2 && bM a b) cu) <|
 cond (decide (op ≤ 15)) (bH (vo 1 l) cu) <|
 cond (decide (op ≤ 17)) ((bL b).bind fun e => bH (bM a e) cu) <|
 cond (decide (op ≤ 18)) (bH ((bL a).isSome && bM a b) cu) <|
 cond (decide (op ≤ 19)) (some gF) <|
 cond (decide (op ≤ 26)) (bH (vo 1 l) gF) <|
 cond (decide (op ≤ 27)) (bH (a.kind != 2 && b.kind != 2) (cO a b)) <|
 cond (decide (op ≤ 28)) (bH (a.kind != 2 && l.all fun x => bM x a) (aW a)) <|
 cond (decide (op ≤ 30)) (bH (vo 1 l) (aW gF)) <|
 cond (decide (op ≤ 33)) (bH ((bL a).isSome && bM a b) a) <|
 cond (decide (op ≤ 34)) ((bL a).bind fun x => (bL b).map fun y => aW (cO x y)) <|
 cond (decide (op ≤ 35)) (bH ((eH a).isSome && bM a b) a) <|
 cond (decide (op ≤ 36)) ((eH a).bind fun x => (eH b).bind fun y => bH (bM x.2 y.1) (aW (cO x.1 y.2))) <|
 cond (decide (op ≤ 38)) ((bL a).bind fun x => (eH b).bind fun y => bH (bM x y.1) b) <|
 cond (decide (op ≤ 40)) ((eH a).bind fun x => (bL b).bind fun y => bH (bM y x.2) a) <|
 cond (decide (op ≤ 45)) ((bL a).bind fun x => (bL b).map fun y => aW (aW (cO x y))) <|
 cond (decide (op ≤ 46)) ((bL a).map fun x => aW (aW x)) <|
 cond (decide (op ≤ 47)) ((bL a).map fun _ => gF) <|
 cond (decide (op ≤ 49)) ((bL a).bind fun x => bH (x.kind == 1) gF) <|
 cond (decide (op ≤ 50)) ((eH a).map fun x => aW x.1) <|
 cond (decide (op ≤ 51)) ((eH a).map fun x => aW x.2) <|
 cond (decide (op ≤ 52)) ((eH a).map fun x => aW (cO x.2 x.1)) <|
 cond (decide (op ≤ 53)) ((eH a).bind fun x => (bL b).bind fun y => bH (bM y x.1) (aW x.2)) <|
 cond (decide (op ≤ 54)) ((eH a).bind fun x => bH (bM b x.1) x.2) <|
 cond (decide (op ≤ 55)) (bH ((bL a).isSome && b.kind == 2) a) <|
 (bL a).bind fun x => bH (b.kind != 2) (aW (cO x b))
def ajA (r : Ty × Bool) (o : Option Ty) : Prop := match o with | some t => r = (t, true) | none => r.2 = false
def Row (f : Nat → Option (Ty × Bool)) (o : Option Ty) : Prop := ∃ r, Ev f r ∧ ajA r o
theorem Row.of {f : Nat → Option (Ty × Bool)} {o : Option Ty} (t : Ty) (b : Bool) (h : Ev f (t, b)) (he : o = bH b t) : Row f o := by
 subst he
 cases b
 ·exact ⟨_, h, rfl⟩
 ·exact ⟨_, h, rfl⟩
theorem Row.no {f : Nat → Option (Ty × Bool)} {o : Option Ty} (t : Ty) (h : Ev f (t, false)) (he : o = none) : Row f o := .of t false h he
theorem Row.yes {f : Nat → Option (Ty × Bool)} {o : Option Ty} (t : Ty) (h : Ev f (t, true)) (he : o = some t) : Row f o := .of t true h he
end Abs
end Go.Proofs.YtiiaccpcoclklaaGreat
namespace Go.Proofs.YtiiaccpcoclklaaGreat
namespace Abs
open Go
theorem fF {α : Type} (a : α) (l : List α) : idx (a :: l) 0 = some a := rfl
theorem jy {α : Type} (a b : α) (l : List α) : idx (a :: b :: l) 1 = some b := rfl
theorem lQ (t : Ty) : Ty.mk t.kind t.name t.kids = t := by cases t; rfl
theorem aaU (a b : Ty) : bM a b = true ↔ a = b := ⟨wH a b, fun h => h ▸ Ah a⟩
theorem ahp (a b : Ty) : bM a b = bM b a := by
 rw [Bool.eq_iff_iff, aaU, aaU]
 exact ⟨Eq.symm, Eq.symm⟩
theorem ani {t : Ty} (h : Top t) : (t.kind == 5) = (bL t).isSome := by
 rcases h with rfl | h
 ·rfl
 ·cases h <;> rfl
theorem lu (l : List Ty) (k : Int) (nm : Str) (ks : List Ty) (q : Int) : Row (fun n => bF n l k nm ks q) (bH (vo q l) (.mk k nm ks)) := by
 unfold bF lX nY
 refine Row.of (.mk k nm ks) (vo q l) ?_ rfl
 refine Ev.bind (a := l.any fun x => x.kind != q) (Ev.bind (xJ l (fun n k i => jD n l q k i) (fun _ x => some (x.kind != q)) (fun x => x.kind != q) (fun n k i => rfl) (fun x _ => Ev.ret _)) ?_) ?_
 ·rw [w9 _ _ _ (Int.le_refl _)]
  exact Ev.ret _
 ·have : (!(l.any fun x => x.kind != q)) = vo q l := by
   unfold vo
   rw [show (fun x : Ty => x.kind != q) = fun x => !(x.kind == q) from rfl, nL, Bool.not_not]
  rw [this]
  exact Ev.ret _
theorem aa4 (a : Ty) (l : List Ty) : Ev (fun n => kH n (a :: l)) (a.kind != 2 && (a :: l).all fun x => bM x a) := by
 unfold kH lY nU
 simp only [fF, Option.bind_some]
 refine Ev.bind (a := a.kind != 2 && (a :: l).all fun x => bM x a) ?_ (Ev.ret _)
 cases a.kind != 2 with
 | false => exact Ev.ret _
 | true =>
  simp only [cond_true, Bool.true_and]
  refine Ev.bind (a := (a :: l).any fun x => !(bM x a)) (Ev.bind (xJ (a :: l) (fun n k i => jC n (a :: l) (a :: l) k i) (fun n x => uU n x (a :: l)) (fun x => !(bM x a)) (fun n k i => rfl) (fun x _ => ?_)) ?_) ?_
  ·unfold uU
   simp only [fF, Option.bind_some]
   exact Ev.bind (xw x a) (Ev.ret _)
  ·rw [w9 _ _ _ (Int.le_refl _)]
   exact Ev.ret _
  ·rw [nL, Bool.not_not]
   exact Ev.ret _
theorem F4 (a b : Ty) : Ev (fun n => kH n [a, b]) (a.kind != 2 && bM a b) := by
 have := aa4 a [b]
 simp only [List.all_cons, List.all_nil, Bool.and_true, Ah, Bool.true_and] at this
 rwa [ahp b a] at this
section
variable {a b : Ty} (ha : Top a) (hb : Top b)
theorem Zh (hs : (bL a).isSome = true) : Row (fun n => nE n [a, b]) (bH ((bL a).isSome && b.kind == 2) cu) := by
 rw [hs]
 exact Row.of cu (b.kind == 2) (Ev.ret _) rfl
theorem aga (hs : (bL a).isSome = true) : Row (fun n => sH n [a, b]) (bH ((bL a).isSome && b.kind == 2) a) := by
 rw [hs]
 exact Row.of a (b.kind == 2) (Ev.ret _) rfl
theorem aaS : Row (fun n => p8 n [a, b]) (bH (a.kind != 2 && bM a b) cu) :=
 Row.of cu _ (Ev.bind (F4 a b) (Ev.ret _)) rfl
include hb in
theorem U8 : Row (fun n => nQ n [a, b]) ((bL b).bind fun e => bH (bM a e) cu) := by
 unfold nQ
 simp only [fF, jy, Option.bind_some, iC _ hb]
 cases bL b with
 | none => exact .no cu (Ev.ret _) rfl
 | some e => exact .of cu (bM a e) (Ev.bind (Ev.bind (xw a e) (Ev.ret _)) (Ev.ret _)) rfl
include ha in
theorem abM : (a.kind == 5 && (a.kind != 2 && bM a b)) = ((bL a).isSome && bM a b) := by
 rw [ani ha]
 cases hs : bL a with
 | none => rfl
 | some e => obtain ⟨_, rfl⟩ := l9 ha hs; rfl
include ha in
theorem agT : Row (fun n => pK n [a, b]) (bH ((bL a).isSome && bM a b) cu) := by
 rw [← abM ha]
 unfold pK
 simp only [fF, Option.bind_some]
 refine .of cu _ (Ev.bind (a := a.kind == 5 && (a.kind != 2 && bM a b)) ?_ (Ev.ret _)) rfl
 cases a.kind == 5 with
 | false => exact Ev.ret _
 | true => exact Ev.bind (F4 a b) (Ev.ret _)
include ha in
theorem NM : Row (fun n => iV n [a, b]) (bH ((bL a).isSome && bM a b) a) := by
 rw [← abM ha]
 unfold iV
 simp only [fF, Option.bind_some]
 refine .of a _ (Ev.bind (a := (a.kind == 5 && (a.kind != 2 && bM a b), a.kind, a.name, a.kids)) ?_ (by simp only [lQ]; exact Ev.ret _)) rfl
 cases a.kind == 5 with
 | false => exact Ev.ret _
 | true => exact Ev.bind (F4 a b) (Ev.ret _)
theorem aiw : Row (fun n => rZ n [a, b]) (bH (a.kind != 2 && b.kind != 2) (cO a b)) := by
 unfold rZ
 simp only [fF, jy, Option.bind_some]
 cases a.kind != 2 with
 | false => exact .no (cO a b) (Ev.ret _) rfl
 | true => exact .of (cO a b) (b.kind != 2) (Ev.ret _) rfl
theorem aj2 (l : List Ty) : Row (fun n => sG n (a :: l)) (bH (a.kind != 2 && (a :: l).all fun x => bM x a) (aW a)) := by
 unfold sG
 simp only [fF, Option.bind_some]
 exact .of (aW a) _ (Ev.bind (aa4 a l) (Ev.ret _)) rfl
include ha hb in
theorem ai4 : Row (fun n => qU n [a, b]) ((bL a).bind fun x => (bL b).map fun y => aW (cO x y)) := by
 unfold qU
 simp only [fF, jy, Option.bind_some, iC _ ha, iC _ hb]
 cases bL a with
 | none => exact .no bA (Ev.ret _) rfl
 | some x =>
  cases bL b with
  | none => exact .no bA (Ev.ret _) rfl
  | some y => exact .yes (aW (cO x y)) (Ev.ret _) rfl
include ha hb in
theorem Fh : Row (fun n => fM n [a, b]) ((bL a).bind fun x => (bL b).map fun y => aW (aW (cO x y))) := by
 unfold fM
 simp only [fF, jy, Option.bind_some, iC _ ha, iC _ hb]
 cases bL a with
 | none => exact .no bA (Ev.ret _) rfl
 | some x =>
  cases bL b with
  | none => exact .no bA (Ev.ret _) rfl
  | some y => exact .yes (aW (aW (cO x y))) (Ev.ret _) rfl
include ha in
theorem aiV : Row (fun n => j5 n [a, b]) (bH ((eH a).isSome && bM a b) a) := by
 unfold j5
 simp only [fF, Option.bind_some, uj _ ha]
 cases hr : eH a with
 | none => exact .no bA (Ev.ret _) rfl
 | some x =>
  obtain ⟨x, y⟩ := x
  obtain ⟨_, _, rfl⟩ := nP ha hr
  refine .of _ (bM (aW (cO x y)) b) (Ev.bind (a := (aW (cO x y), bM (aW (cO x y)) b)) ?_ (Ev.ret _)) rfl
  show Ev (fun n => (kH n [aW (cO x y), b]).bind fun x2 => some (aW (cO x y), x2)) _
  exact Ev.bind (F4 (aW (cO x y)) b) (Ev.ret _)
include ha hb in
theorem aiY : Row (fun n => j4 n [a, b]) ((eH a).bind fun x => (eH b).bind fun y => bH (bM x.2 y.1) (aW (cO x.1 y.2))) := by
 unfold j4 zw
 simp only [fF, jy, Option.bind_some, uj _ ha, uj _ hb]
 cases eH a with
 | none => exact .no bA (Ev.ret _) rfl
 | some x =>
  cases eH b with
  | none => exact .no (aW (cO x.1 bA)) (Ev.ret _) rfl
  | some y => exact .of (aW (cO x.1 y.2)) (bM x.2 y.1) (Ev.bind (Ev.bind (Ev.bind (xw x.2 y.1) (Ev.ret _)) (Ev.ret _)) (Ev.ret _)) rfl
include ha hb in
theorem aa2 : Row (fun n => nT n [a, b]) ((bL a).bind fun x => (eH b).bind fun y => bH (bM x y.1) b) := by
 unfold nT
 simp only [fF, jy, Option.bind_some, iC _ ha, uj _ hb]
 cases bL a with
 | none => exact .no b (by simp only [elP, cond_false, Option.bind_some, lQ]; exact Ev.ret _) rfl
 | some x =>
  cases eH b with
  | none => exact .no b (by simp only [elP, siP, cond_true, cond_false, Option.bind_some, lQ]; exact Ev.ret _) rfl
  | some y =>
   refine .of b (bM x y.1) ?_ rfl
   simp only [elP, siP, cond_true]
   exact Ev.bind (a := (bM x y.1, b.kind, b.name, b.kids)) (Ev.bind (xw x y.1) (Ev.ret _)) (by simp only [lQ]; exact Ev.ret _)
include ha hb in
theorem abW : Row (fun n => gP n [a, b]) ((eH a).bind fun x => (bL b).bind fun y => bH (bM y x.2) a) := by
 unfold gP zu
 simp only [fF, jy, Option.bind_some, iC _ hb, uj _ ha]
 cases eH a with
 | none => exact .no bA (Ev.ret _) rfl
 | some x =>
  cases bL b with
  | none => exact .no a (by simp only [elP, siP, cond_false, Option.bind_some, lQ, Bool.not_true]; exact Ev.ret _) rfl
  | some y =>
   refine .of a (bM y x.2) ?_ rfl
   simp only [elP, siP, cond_true, Bool.not_true, cond_false]
   exact Ev.bind (a := (a, bM y x.2)) (Ev.bind (a := (bM y x.2, a.kind, a.name, a.kids)) (Ev.bind (xw y x.2) (Ev.ret _)) (by simp only [lQ]; exact Ev.ret _)) (Ev.ret _)
include ha in
theorem ak9 : Row (fun n => oo n [a]) ((bL a).map fun x => aW (aW x)) := by
 unfold oo
 simp only [fF, Option.bind_some, iC _ ha]
 cases bL a with
 | none => exact .no bA (Ev.ret _) rfl
 | some x => exact .yes (aW (aW x)) (Ev.ret _) rfl
include ha in
theorem ah5 : Row (fun n => oC n [a]) ((bL a).map fun _ => gF) := by
 unfold oC
 simp only [fF, Option.bind_some, iC _ ha]
 cases bL a with
 | none => exact .no bA (Ev.ret _) rfl
 | some x => exact .yes gF (Ev.ret _) rfl
include ha in
theorem ad3 : Row (fun n => kL n [a]) ((bL a).bind fun x => bH (x.kind == 1) gF) := by
 unfold kL
 simp only [fF, Option.bind_some, iC _ ha]
 cases bL a with
 | none => exact .no bA (Ev.ret _) rfl
 | some x => exact .of gF (x.kind == 1) (Ev.ret _) rfl
include ha in
theorem ak2 : Row (fun n => jY n [a]) ((eH a).map fun x => aW x.1) := by
 unfold jY
 simp only [fF, Option.bind_some, uj _ ha]
 cases eH a with
 | none => exact .no bA (Ev.ret _) rfl
 | some x => exact .yes (aW x.1) (Ev.ret _) rfl
include ha in
theorem akY : Row (fun n => kg n [a]) ((eH a).map fun x => aW x.2) := by
 unfold kg
 simp only [fF, Option.bind_some, uj _ ha]
 cases eH a with
 | none => exact .no bA (Ev.ret _) rfl
 | some x => exact .yes (aW x.2) (Ev.ret _) rfl
include ha in
theorem akk : Row (fun n => j6 n [a]) ((eH a).map fun x => aW (cO x.2 x.1)) := by
 unfold j6
 simp only [fF, Option.bind_some, uj _ ha]
 cases eH a with
 | none => exact .no bA (Ev.ret _) rfl
 | some x => exact .yes (aW (cO x.2 x.1)) (Ev.ret _) rfl
include ha hb in
theorem ahs : Row (fun n => jZ n [a, b]) ((eH a).bind fun x => (bL b).bind fun y => bH (bM y x.1) (aW x.2)) := by
 unfold jZ xW
 simp only [fF, jy, Option.bind_some, iC _ hb, uj _ ha]
 cases eH a with
 | none => exact .no bA (Ev.ret _) rfl
 | some x =>
  cases bL b with
  | none => exact .no (aW x.2) (Ev.ret _) rfl
  | some y => exact .of (aW x.2) (bM y x.1) (Ev.bind (Ev.bind (Ev.bind (xw y x.1) (Ev.ret _)) (Ev.ret _)) (Ev.ret _)) rfl
include ha in
theorem agH : Row (fun n => kr n [a, b]) ((eH a).bind fun x => bH (bM b x.1) x.2) := by
 unfold kr yh
 simp only [fF, jy, Option.bind_some, uj _ ha]
 cases eH a with
 | none => exact .no bA (Ev.ret _) rfl
 | some x => exact .of x.2 (bM b x.1) (Ev.bind (Ev.bind (xw b x.1) (Ev.ret _)) (Ev.ret _)) rfl
include ha in
theorem akU : Row (fun n => qR n [a, b]) ((bL a).bind fun x => bH (b.kind != 2) (aW (cO x b))) := by
 unfold qR
 simp only [fF, jy, Option.bind_some, iC _ ha]
 cases bL a with
 | none => exact .no (aW (cO bA b)) (Ev.ret _) rfl
 | some x => exact .of (aW (cO x b)) (b.kind != 2) (Ev.ret _) rfl
end
def ame (f : Nat → Option (Bool × Int × Str × (List Ty))) (o : Option Ty) : Prop := ∃ r, Ev f r ∧ (match o with | some t => r = (true, t.kind, t.name, t.kids) | none => r.1 = false)
theorem Row.c {f : Nat → Option (Ty × Bool)} {o : Option Ty} (h : Row f o) : ame (fun n => (f n).bind fun x => some (x.2, x.1.kind, x.1.name, x.1.kids)) o := by
 obtain ⟨r, h1, h2⟩ := h
 refine ⟨_, Ev.bind h1 (Ev.ret _), ?_⟩
 cases o with
 | none => exact h2
 | some t => have h2 : r = (t, true) := h2; subst h2; rfl
def ahS (n : Nat) (op : Int) (l : List Ty) : Option (Bool × Int × Str × (List Ty)) := (cond (op == 0) none (cond (op == 1) (some (((Ty.mk 2 ([] : Str) ([])), true).2, (((Ty.mk 2 ([] : Str) ([])), true).1).kind, (((Ty.mk 2 ([] : Str) ([])), true).1).name, (((Ty.mk 2 ([] : Str) ([])), true).1).kids)) (cond (op == 2) (some (((Ty.mk 2 ([] : Str) ([])), true).2, (((Ty.mk 2 ([] : Str) ([])), true).1).kind, (((Ty.mk 2 ([] : Str) ([])), true).1).name, (((Ty.mk 2 ([] : Str) ([])), true).1).kids)) (cond (op == 3) ((bF n l 2 ([] : Str) ([]) 2).bind fun (x6 : Ty × Bool) => some (x6.2, x6.1.kind, x6.1.name, x6.1.kids)) (cond (op == 4) ((bF n l 2 ([] : Str) ([]) 2).bind fun (x7 : Ty × Bool) => some (x7.2, x7.1.kind, x7.1.name, x7.1.kids)) (cond (op == 5) ((bF n l 2 ([] : Str) ([]) 2).bind fun (x8 : Ty × Bool) => some (x8.2, x8.1.kind, x8.1.name, x8.1.kids)) (cond (op == 6) ((bF n l 2 ([] : Str) ([]) 2).bind fun (x9 : Ty × Bool) => some (x9.2, x9.1.kind, x9.1.name, x9.1.kids)) (cond (op == 7) ((bF n l 2 ([] : Str) ([]) 2).bind fun (x10 : Ty × Bool) => some (x10.2, x10.1.kind, x10.1.name, x10.1.kids)) (cond (op == 8) ((nE n l).bind fun (x11 : Ty × Bool) => some (x11.2, x11.1.kind, x11.1.name, x11.1.kids)) (cond (op == 9) ((nE n l).bind fun (x12 : Ty × Bool) => some (x12.2, x12.1.kind, x12.1.name, x12.1.kids)) (cond (op == 10) ((p8 n l).bind fun (x13 : Ty × Bool) => some (x13.2, x13.1.kind, x13.1.name, x13.1.kids)) (cond (op == 11) ((p8 n l).bind fun (x14 : Ty × Bool) => some (x14.2, x14.1.kind, x14.1.name, x14.1.kids)) (cond (op == 12) ((bF n l 2 ([] : Str) ([]) 1).bind fun (x15 : Ty × Bool) => some (x15.2, x15.1.kind, x15.1.name, x15.1.kids)) (cond (op == 13) ((bF n l 2 ([] : Str) ([]) 1).bind fun (x16 : Ty × Bool) => some (x16.2, x16.1.kind, x16.1.name, x16.1.kids)) (cond (op == 14) ((bF n l 2 ([] : Str) ([]) 1).bind fun (x17 : Ty × Bool) => some (x17.2, x17.1.kind, x17.1.name, x17.1.kids)) (cond (op == 15) ((bF n l 2 ([] : Str) ([]) 1).bind fun (x18 : Ty × Bool) => some (x18.2, x18.1.kind, x18.1.name, x18.1.kids)) (cond (op == 16) ((nQ n l).bind fun (x19 : Ty × Bool) => some (x19.2, x19.1.kind, x19.1.name, x19.1.kids)) (cond (op == 17) ((nQ n l).bind fun (x20 : Ty × Bool) => some (x20.2, x20.1.kind, x20.1.name, x20.1.kids)) (cond (op == 18) ((pK n l).bind fun (x21 : Ty × Bool) => some (x21.2, x21.1.kind, x21.1.name, x21.1.kids)) (cond (op == 19) (some (((Ty.mk 1 ([] : Str) ([])), true).2, (((Ty.mk 1 ([] : Str) ([])), true).1).kind, (((Ty.mk 1 ([] : Str) ([])), true).1).name, (((Ty.mk 1 ([] : Str) ([])), true).1).kids)) (cond (op == 20) none (cond (op == 21) ((bF n l 1 ([] : Str) ([]) 1).bind fun (x22 : Ty × Bool) => some (x22.2, x22.1.kind, x22.1.name, x22.1.kids)) (cond (op == 22) ((bF n l 1 ([] : Str) ([]) 1).bind fun (x23 : Ty × Bool) => some (x23.2, x23.1.kind, x23.1.name, x23.1.kids)) (cond (op == 23) ((bF n l 1 ([] : Str) ([]) 1).bind fun (x24 : Ty × Bool) => some (x24.2, x24.1.kind, x24.1.name, x24.1.kids)) (cond (op == 24) ((bF n l 1 ([] : Str) ([]) 1).bind fun (x25 : Ty × Bool) => some (x25.2, x25.1.kind, x25.1.name, x25.1.kids)) (cond (op == 25) ((bF n l 1 ([] : Str) ([]) 1).bind fun (x26 : Ty × Bool) => some (x26.2, x26.1.kind, x26.1.name, x26.1.kids)) (cond (op == 26) ((bF n l 1 ([] : Str) ([]) 1).bind fun (x27 : Ty × Bool) => some (x27.2, x27.1.kind, x27.1.name, x27.1.kids)) (cond (op == 27) ((rZ n l).bind fun (x28 : Ty × Bool) => some (x28.2, x28.1.kind, x28.1.name, x28.1.kids)) (cond (op == 28) ((sG n l).bind fun (x29 : Ty × Bool) => some (x29.2, x29.1.kind, x29.1.name, x29.1.kids)) (cond (op == 29) none (cond (op == 30) ((bF n l 5 ([] : Str) ([(Ty.mk 1 ([] : Str) ([]))]) 1).bind fun (x30 : Ty × Bool) => some (x30.2, x30.1.kind, x30.1.name, x30.1.kids)) (cond (op == 31) ((iV n l).bind fun (x31 : Ty × Bool) => some (x31.2, x31.1.kind, x31.1.name, x31.1.kids)) (cond (op == 32) ((iV n l).bind fun (x32 : Ty × Bool) => some (x32.2, x32.1.kind, x32.1.name, x32.1.kids)) (cond (op == 33) ((iV n l).bind fun (x33 : Ty × Bool) => some (x33.2, x33.1.kind, x33.1.name, x33.1.kids)) (cond (op == 34) ((qU n l).bind fun (x34 : Ty × Bool) => some (x34.2, x34.1.kind, x34.1.name, x34.1.kids)) (cond (op == 35) ((j5 n l).bind fun (x35 : Ty × Bool) => some (x35.2, x35.1.kind, x35.1.name, x35.1.kids)) (cond (op == 36) ((j4 n l).bind fun (x36 : Ty × Bool) => some (x36.2, x36.1.kind, x36.1.name, x36.1.kids)) (cond (op == 37) ((nT n l).bind fun (x37 : Ty × Bool) => some (x37.2, x37.1.kind, x37.1.name, x37.1.kids)) (cond (op == 38) ((nT n l).bind fun (x38 : Ty × Bool) => some (x38.2, x38.1.kind, x38.1.name, x38.1.kids)) (cond (op == 39) ((gP n l).bind fun (x39 : Ty × Bool) => some (x39.2, x39.1.kind, x39.1.name, x39.1.kids)) (cond (op == 40) ((gP n l).bind fun (x40 : Ty × Bool) => some (x40.2, x40.1.kind, x40.1.name, x40.1.kids)) (cond (op == 41) ((fM n l).bind fun (x41 : Ty × Bool) => some (x41.2, x41.1.kind, x41.1.name, x41.1.kids)) (cond (op == 42) ((fM n l).bind fun (x42 : Ty × Bool) => some (x42.2, x42.1.kind, x42.1.name, x42.1.kids)) (cond (op == 43) ((fM n l).bind fun (x43 : Ty × Bool) => some (x43.2, x43.1.kind, x43.1.name, x43.1.kids)) (cond (op == 44) ((fM n l).bind fun (x44 : Ty × Bool) => some (x44.2, x44.1.kind, x44.1.name, x44.1.kids)) (cond (op == 45) ((fM n l).bind fun (x45 : Ty × Bool) => some (x45.2, x45.1.kind, x45.1.name, x45.1.kids)) (cond (op == 46) ((oo n l).bind fun (x46 : Ty × Bool) => some (x46.2, x46.1.kind, x46.1.name, x46.1.kids)) (cond (op == 47) ((oC n l).bind fun (x47 : Ty × Bool) => some (x47.2, x47.1.kind, x47.1.name, x47.1.kids)) (cond (op == 48) ((kL n l).bind fun (x48 : Ty × Bool) => some (x48.2, x48.1.kind, x48.1.name, x48.1.kids)) (cond (op == 49) ((kL n l).bind fun (x49 : Ty × Bool) => some (x49.2, x49.1.kind, x49.1.name, x49.1.kids)) (cond (op == 50) ((jY n l).bind fun (x50 : Ty × Bool) => some (x50.2, x50.1.kind, x50.1.name, x50.1.kids)) (cond (op == 51) ((kg n l).bind fun (x51 : Ty × Bool) => some (x51.2, x51.1.kind, x51.1.name, x51.1.kids)) (cond (op == 52) ((j6 n l).bind fun (x52 : Ty × Bool) => some (x52.2, x52.1.kind, x52.1.name, x52.1.kids)) (cond (op == 53) ((jZ n l).bind fun (x53 : Ty × Bool) => some (x53.2, x53.1.kind, x53.1.name, x53.1.kids)) (cond (op == 54) ((kr n l).bind fun (x54 : Ty × Bool) => some (x54.2, x54.1.kind, x54.1.name, x54.1.kids)) (cond (op == 55) ((sH n l).bind fun (x55 : Ty × Bool) => some (x55.2, x55.1.kind, x55.1.name, x55.1.kids)) (cond (op == 56) ((qR n l).bind fun (x56 : Ty × Bool) => some (x56.2, x56.1.kind, x56.1.name, x56.1.kids)) none)))))))))))))))))))))))))))))))))))))))))))))))))))))))))
theorem ad1 {op : Int} (h1 : 1 ≤ op) (h2 : op ≤ 56) : op = 1 ∨ op = 2 ∨ op = 3 ∨ op = 4 ∨ op = 5 ∨ op = 6 ∨ op = 7 ∨ op = 8 ∨ op = 9 ∨ op = 10 ∨ op = 11 ∨ op = 12 ∨ op = 13 ∨ op = 14 ∨ op = 15 ∨ op = 16 ∨ op = 17 ∨ op = 18 ∨ op = 19 ∨ op = 20 ∨ op = 21 ∨ op = 22 ∨ op = 23 ∨ op = 24 ∨ op = 25 ∨ op = 26 ∨ op = 27 ∨ op = 28 ∨ op = 29 ∨ op = 30 ∨ op = 31 ∨ op = 32 ∨ op = 33 ∨ op = 34 ∨ op = 35 ∨ op = 36 ∨ op = 37 ∨ op = 38 ∨ op = 39 ∨ op = 40 ∨ op = 41 ∨ op = 42 ∨ op = 43 ∨ op = 44 ∨ op = 45 ∨ op = 46 ∨ op = 47 ∨ op = 48 ∨ op = 49 ∨ op = 50 ∨ op = 51 ∨ op = 52 ∨ op = 53 ∨ op = 54 ∨ op = 55 ∨ op = 56 := by omega
theorem qy {α : Type} (l : List α) (h : (l.length : Int) = 1) : ∃ a, l = [a] := by
 match l, h with
 | [a], _ => exact ⟨a, rfl⟩
theorem dD {α : Type} (l : List α) (h : (l.length : Int) = 2) : ∃ a b, l = [a, b] := by
 match l, h with
 | [a, b], _ => exact ⟨a, b, rfl⟩
theorem Io {α : Type} (l : List α) (h : l ≠ []) : ∃ a m, l = a :: m := by
 match l, h with
 | a :: m, _ => exact ⟨a, m, rfl⟩
structure LenOk (op : Int) (l : List Ty) : Prop where
 one : dw op = 1 → (l.length : Int) = 1
 two : dw op = 2 → (l.length : Int) = 2
 some : dw op = -1 → l ≠ []
set_option maxRecDepth 100000 in
theorem agq {op : Int} (h1 : 1 ≤ op) (h2 : op ≤ 56) (h20 : op ≠ 20) (h29 : op ≠ 29) {l : List Ty} (hl : ∀ t ∈ l, Top t) (hn : LenOk op l) (hb : bg op = true → (bL (l.headD bA)).isSome = true) : ame (fun n => ahS n op l) (jB op l) := by
 rcases ad1 h1 h2 with rfl | rfl | rfl | rfl | rfl | rfl | rfl | rfl | rfl | rfl | rfl | rfl | rfl | rfl | rfl | rfl | rfl | rfl | rfl | rfl | rfl | rfl | rfl | rfl | rfl | rfl | rfl | rfl | rfl | rfl | rfl | rfl | rfl | rfl | rfl | rfl | rfl | rfl | rfl | rfl | rfl | rfl | rfl | rfl | rfl | rfl | rfl | rfl | rfl | rfl | rfl | rfl | rfl | rfl | rfl | rfl
 ·exact ⟨_, Ev.ret _, rfl⟩
 ·exact ⟨_, Ev.ret _, rfl⟩
 ·exact Row.c (lu l 2 [] [] 2)
 ·exact Row.c (lu l 2 [] [] 2)
 ·exact Row.c (lu l 2 [] [] 2)
 ·exact Row.c (lu l 2 [] [] 2)
 ·exact Row.c (lu l 2 [] [] 2)
 ·obtain ⟨a, b, rfl⟩ := dD l (hn.two rfl); exact Row.c (Zh (hb rfl))
 ·obtain ⟨a, b, rfl⟩ := dD l (hn.two rfl); exact Row.c (Zh (hb rfl))
 ·obtain ⟨a, b, rfl⟩ := dD l (hn.two rfl); exact Row.c (aaS)
 ·obtain ⟨a, b, rfl⟩ := dD l (hn.two rfl); exact Row.c (aaS)
 ·exact Row.c (lu l 2 [] [] 1)
 ·exact Row.c (lu l 2 [] [] 1)
 ·exact Row.c (lu l 2 [] [] 1)
 ·exact Row.c (lu l 2 [] [] 1)
 ·obtain ⟨a, b, rfl⟩ := dD l (hn.two rfl); exact Row.c (U8 (hl b (by simp)))
 ·obtain ⟨a, b, rfl⟩ := dD l (hn.two rfl); exact Row.c (U8 (hl b (by simp)))
 ·obtain ⟨a, b, rfl⟩ := dD l (hn.two rfl); exact Row.c (agT (hl a (by simp)))
 ·exact ⟨_, Ev.ret _, rfl⟩
 ·exact absurd rfl h20
 ·exact Row.c (lu l 1 [] [] 1)
 ·exact Row.c (lu l 1 [] [] 1)
 ·exact Row.c (lu l 1 [] [] 1)
 ·exact Row.c (lu l 1 [] [] 1)
 ·exact Row.c (lu l 1 [] [] 1)
 ·exact Row.c (lu l 1 [] [] 1)
 ·obtain ⟨a, b, rfl⟩ := dD l (hn.two rfl); exact Row.c (aiw)
 ·obtain ⟨a, l, rfl⟩ := Io l (hn.some rfl); exact Row.c (aj2 l)
 ·exact absurd rfl h29
 ·exact Row.c (lu l 5 [] [gF] 1)
 ·obtain ⟨a, b, rfl⟩ := dD l (hn.two rfl); exact Row.c (NM (hl a (by simp)))
 ·obtain ⟨a, b, rfl⟩ := dD l (hn.two rfl); exact Row.c (NM (hl a (by simp)))
 ·obtain ⟨a, b, rfl⟩ := dD l (hn.two rfl); exact Row.c (NM (hl a (by simp)))
 ·obtain ⟨a, b, rfl⟩ := dD l (hn.two rfl); exact Row.c (ai4 (hl a (by simp)) (hl b (by simp)))
 ·obtain ⟨a, b, rfl⟩ := dD l (hn.two rfl); exact Row.c (aiV (hl a (by simp)))
 ·obtain ⟨a, b, rfl⟩ := dD l (hn.two rfl); exact Row.c (aiY (hl a (by simp)) (hl b (by simp)))
 ·obtain ⟨a, b, rfl⟩ := dD l (hn.two rfl); exact Row.c (aa2 (hl a (by simp)) (hl b (by simp)))
 ·obtain ⟨a, b, rfl⟩ := dD l (hn.two rfl); exact Row.c (aa2 (hl a (by simp)) (hl b (by simp)))
 ·obtain ⟨a, b, rfl⟩ := dD l (hn.two rfl); exact Row.c (abW (hl a (by simp)) (hl b (by simp)))
 ·obtain ⟨a, b, rfl⟩ := dD l (hn.two rfl); exact Row.c (abW (hl a (by simp)) (hl b (by simp)))
 ·obtain ⟨a, b, rfl⟩ := dD l (hn.two rfl); exact Row.c (Fh (hl a (by simp)) (hl b (by simp)))
 ·obtain ⟨a, b, rfl⟩ := dD l (hn.two rfl); exact Row.c (Fh (hl a (by simp)) (hl b (by simp)))
 ·obtain ⟨a, b, rfl⟩ := dD l (hn.two rfl); exact Row.c (Fh (hl a (by simp)) (hl b (by simp)))
 ·obtain ⟨a, b, rfl⟩ := dD l (hn.two rfl); exact Row.c (Fh (hl a (by simp)) (hl b (by simp)))
 ·obtain ⟨a, b, rfl⟩ := dD l (hn.two rfl); exact Row.c (Fh (hl a (by simp)) (hl b (by simp)))
 ·obtain ⟨a, rfl⟩ := qy l (hn.one rfl); exact Row.c (ak9 (hl a (by simp)))
 ·obtain ⟨a, rfl⟩ := qy l (hn.one rfl); exact Row.c (ah5 (hl a (by simp)))
 ·obtain ⟨a, rfl⟩ := qy l (hn.one rfl); exact Row.c (ad3 (hl a (by simp)))
 ·obtain ⟨a, rfl⟩ := qy l (hn.one rfl); exact Row.c (ad3 (hl a (by simp)))
 ·obtain ⟨a, rfl⟩ := qy l (hn.one rfl); exact Row.c (ak2 (hl a (by simp)))
 ·obtain ⟨a, rfl⟩ := qy l (hn.one rfl); exact Row.c (akY (hl a (by simp)))
 ·obtain ⟨a, rfl⟩ := qy l (hn.one rfl); exact Row.c (akk (hl a (by simp)))
 ·obtain ⟨a, b, rfl⟩ := dD l (hn.two rfl); exact Row.c (ahs (hl a (by simp)) (hl b (by simp)))
 ·obtain ⟨a, b, rfl⟩ := dD l (hn.two rfl); exact Row.c (agH (hl a (by simp)))
 ·obtain ⟨a, b, rfl⟩ := dD l (hn.two rfl); exact Row.c (aga (hb rfl))
 ·obtain ⟨a, b, rfl⟩ := dD l (hn.two rfl); exact Row.c (akU (hl a (by simp)))
end Abs
end Go.Proofs.YtiiaccpcoclklaaGreat
namespace Go.Proofs.YtiiaccpcoclklaaGreat
namespace Abs
open Go
end Abs
end Go.Proofs.YtiiaccpcoclklaaGreat

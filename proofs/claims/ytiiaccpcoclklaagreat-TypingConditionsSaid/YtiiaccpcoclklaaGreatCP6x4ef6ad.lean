/-
  Environments: Lookup and With of the program and of the document come to the same plain answers; the law TypingEnvs. Conditions: none; lemmas without a program.
-/
import Derived.Test.YtiiaccpcoclklaaGreatCG1xb550c8
set_option linter.unusedSimpArgs false
set_option linter.unusedVariables false
namespace Go.Proofs.YtiiaccpcoclklaaGreat
namespace Abs
open Go
theorem pJ {env : Env} (h : eD env = true) : env.carriers.length ≤ 8 ∧ env.names.length ≤ 64 ∧ env.carriers.all zk = true ∧ env.names.all (Eo env) = true ∧ (names2 env).Nodup := by
 simp only [eD, Bool.and_eq_true, Bool.not_eq_true', Bool.or_eq_false_iff, decide_eq_false_iff_not, FX] at h
 obtain ⟨⟨h1, h2⟩, h3, h4, h5⟩ := h
 exact ⟨by omega, by omega, h3, h4, h5⟩
theorem G8 {env : Env} (h : eD env = true) {d : Decl} (hd : d ∈ env.names) : named d.name = true ∧ bV d.ty = true ∧ uS 2 d.ty = false ∧ (iM d.ty).all (gZ env) = true := by
 have := List.all_eq_true.1 (pJ h).2.2.2.1 d hd
 simp only [Eo, Bool.and_eq_true, Bool.not_eq_true'] at this
 exact ⟨this.1, this.2.1.1, this.2.1.2, this.2.2⟩
theorem D7 {env : Env} (h : eD env = true) {c : Carrier} (hc : c ∈ env.carriers) : ident c.name = true ∧ c.elems.length ≤ 8 ∧ c.elems.all ident = true := by
 have := List.all_eq_true.1 (pJ h).2.2.1 c hc
 simp only [zk, Bool.and_eq_true, Bool.not_eq_true', decide_eq_false_iff_not] at this
 exact ⟨this.1, by omega, this.2.2⟩
def vE (s : Str) : Ty := .mk 3 s []
def bq (t : Ty) : Ty := .mk 5 [] [t]
def jK (c : Carrier) : List (Str × Ty) := (c.name, bq (vE c.name)) :: c.elems.map fun e => (e, vE c.name)
def qy (env : Env) : List (Str × Ty) := env.carriers.flatMap jK ++ env.names.map fun d => (d.name, d.ty)
def Kk (env : Env) : List (Str × Ty) := (env.names.map fun d => (d.name, d.ty)) ++ ((env.carriers.map fun c => (c.name, bq (vE c.name))) ++ env.carriers.flatMap fun c => c.elems.map fun e => (e, vE c.name))
def look (env : Env) (s : Str) : Option Ty := dY (Kk env) s
theorem GU (env : Env) : (qy env).Perm (Kk env) := by
 unfold qy Kk
 refine List.Perm.trans ?_ List.perm_append_comm
 refine List.Perm.append_right _ ?_
 generalize env.carriers = cs
 induction cs with
 | nil => simp
 | cons c cs ih =>
  simp only [List.flatMap_cons, List.map_cons, List.cons_append, jK]
  refine List.Perm.cons _ ?_
  refine (List.Perm.append_left _ ih).trans ?_
  rw [← List.append_assoc, ← List.append_assoc]
  exact List.Perm.append_right _ List.perm_append_comm
theorem LW (env : Env) : (qy env).map (·.1) = ql env := by
 simp only [qy, ql, List.map_append, List.map_map, List.map_flatMap, jK, List.map_cons]
 congr 1
 ·congr 1
  funext c
  simp [Function.comp_def]
theorem tY {env : Env} (h : eD env = true) : ((qy env).map (·.1)).Nodup := by
 rw [LW, (AA env).nodup_iff]
 exact (pJ h).2.2.2.2
theorem Kh {env : Env} (h : eD env = true) {s : Str} {t : Ty} : look env s = some t ↔ (s, t) ∈ qy env := by
 unfold look
 rw [← Gf (GU env) (tY h), vw _ _ _ (tY h)]
theorem RP {env : Env} (h : eD env = true) : Ev (fun n => qg n env) (dU (qy env) []) := by
 obtain ⟨hc8, hn64, _, _, _⟩ := pJ h
 unfold qg
 have hin : ∀ (c : Carrier) (m : List (Str × Ty)), c.elems.length ≤ 8 → m.length ≤ 10000 → Ev (fun n => jk n c n (0, m)) (.nx (dU (c.elems.map fun e => (e, vE c.name)) m)) := fun c m hce hm => by
  have h1 := oL (ρ := List (Str × Ty)) c.elems (fun n k i s => jk n c k (i, s)) (fun n x s => qb s x (vE c.name)) (fun x s => jI s x (vE c.name)) (fun s => s) (fun suf s => s.length + suf.length ≤ 10008)
   (fun n k i s => rfl)
   (fun x suf s hx hs => by
    simp only [List.length_cons] at hs
    refine ⟨?_, ?_⟩
    ·rw [wX (by omega)]; exact Ev.ret _
    ·have := rU s x (vE c.name); omega) (s0 := m) (by omega)
  have hf : ∀ (es : List Str) (m : List (Str × Ty)), es.foldl (fun s x => jI s x (vE c.name)) m = dU (es.map fun e => (e, vE c.name)) m := by
   intro es
   induction es with
   | nil => intro m; rfl
   | cons e es ih => intro m; rw [List.foldl_cons, ih]; rfl
  rw [hf] at h1
  exact h1
 have h1 := Ae env.carriers (fun n k i s => nN n env k (i, s)) (fun n x s => (qb s x.name (bq (vE x.name))).bind fun x4 => (jk n x n (0, x4)).bind (LR.el (fun s6 => some (.nx s6)) (fun r => some (.rt r)))) (fun x s => .nx (dU (jK x) s)) (fun s => s)
  (fun suf s => s.length + 9 * suf.length ≤ 100)
  (fun n k i s => by
   show cond _ _ _ = _
   congr 1
   show (idx env.carriers i).bind _ = _
   congr 1
   funext x
   show (qb s x.name (bq (vE x.name))).bind _ = _
   cases qb s x.name (bq (vE x.name)) with
   | none => rfl
   | some y =>
    simp only [Option.bind_some]
    cases jk n x n (0, y) with
    | none => rfl
    | some r => cases r <;> rfl)
  (fun x suf s hx hs => by
   simp only [List.length_cons] at hs
   have hx8 := (D7 h hx).2.1
   refine ⟨?_, fun s' he => ?_⟩
   ·rw [wX (by omega)]
    simp only [Option.bind_some]
    have := rU s x.name (bq (vE x.name))
    exact Ev.bind (hin x _ hx8 (by omega)) (Ev.ret _)
   ·cases he
    have := wM (jK x) s
    simp only [jK, List.length_cons, List.length_map] at this ⊢
    omega) (s0 := ([] : List (Str × Ty))) (by simp only [List.length_nil]; omega)
 rw [CX] at h1
 have hf1 : ∀ (cs : List Carrier) (m : List (Str × Ty)), cs.foldl (fun s x => dU (jK x) s) m = dU (cs.flatMap jK) m := by
  intro cs
  induction cs with
  | nil => intro m; rfl
  | cons c cs ih => intro m; rw [List.foldl_cons, ih, List.flatMap_cons, Bt]
 rw [hf1] at h1
 have hl1 : (dU (env.carriers.flatMap jK) []).length ≤ 100 := by
  have key : ∀ cs : List Carrier, (∀ c ∈ cs, c.elems.length ≤ 8) → (cs.flatMap jK).length ≤ 9 * cs.length := by
   intro cs
   induction cs with
   | nil => intro _; simp
   | cons c cs ih =>
    intro hh
    have a := hh c (List.mem_cons_self ..)
    have b := ih fun c hc => hh c (List.mem_cons_of_mem _ hc)
    simp only [List.flatMap_cons, List.length_append, jK, List.length_cons, List.length_map] at b ⊢
    omega
  have a := key env.carriers fun c hc => (D7 h hc).2.1
  have b := wM (env.carriers.flatMap jK) []
  simp only [List.length_nil] at b
  omega
 have h2 := oL (ρ := List (Str × Ty)) env.names (fun n k i s => nR n env k (i, s)) (fun n x s => qb s x.name x.ty) (fun x s => jI s x.name x.ty) (fun s => s) (fun suf s => s.length + suf.length ≤ 1000)
  (fun n k i s => rfl)
  (fun x suf s hx hs => by
   simp only [List.length_cons] at hs
   refine ⟨?_, ?_⟩
   ·rw [wX (by omega)]; exact Ev.ret _
   ·have := rU s x.name x.ty; omega) (s0 := dU (env.carriers.flatMap jK) []) (by omega)
 have hf2 : ∀ (ds : List Decl) (m : List (Str × Ty)), ds.foldl (fun s x => jI s x.name x.ty) m = dU (ds.map fun d => (d.name, d.ty)) m := by
  intro ds
  induction ds with
  | nil => intro m; rfl
  | cons e es ih => intro m; rw [List.foldl_cons, ih]; rfl
 rw [hf2, ← Bt] at h2
 exact Ev.bind h1 (Ev.bind h2 (Ev.ret _))
def bM : Ty := .mk 0 [] []
theorem QH {α β : Type} (f : α → Str) (g : α → β) (l : List α) (k : Str) : dY (l.map fun x => (f x, g x)) k = (l.find? fun x => f x == k).map g := by
 induction l with
 | nil => rfl
 | cons x l ih =>
  rw [List.map_cons, mI, List.find?_cons, ih]
  cases f x == k <;> rfl
def KP (env : Env) : Bool := !(decide (200 < (env.carriers.length : Int)) || decide (200 < (env.names.length : Int))) && !(env.carriers.any fun c => decide (200 < (c.elems.length : Int)))
theorem RI (env : Env) : Ev (fun n => yC n env) (KP env) := by
 unfold yC KP
 have h := qh env.carriers (fun n k i => qW n env k i) (fun _ x => some (decide (200 < (x.elems.length : Int)))) (fun x => decide (200 < (x.elems.length : Int))) false (fun n k i => rfl) (fun x _ => Ev.ret _)
 cases decide (200 < (env.carriers.length : Int)) with
 | true => exact Ev.ret _
 | false =>
  cases decide (200 < (env.names.length : Int)) with
  | true => exact Ev.ret _
  | false =>
   simp only [cond_false, Option.bind_some, Bool.or_false, Bool.not_false, Bool.true_and]
   refine Ev.bind h ?_
   cases env.carriers.any fun c => decide (200 < (c.elems.length : Int))
   ·exact Ev.ret _
   ·exact Ev.ret _
end Abs
end Go.Proofs.YtiiaccpcoclklaaGreat
namespace Go.Proofs.YtiiaccpcoclklaaGreat
namespace Abs
open Go
theorem Tc {α β γ : Type} (l : List α) (l' : List β) (i : Int) (F : α → β → Option γ) : ((idx l i).bind fun x => (idx l' i).bind fun y => F x y) = (idx (l.zip l') i).bind fun p => F p.1 p.2 := by
 unfold idx
 by_cases h : 0 ≤ i
 ·simp only [if_pos h, List.zip, List.getElem?_zipWith]
  cases l[i.toNat]? <;> cases l'[i.toNat]? <;> rfl
 ·simp only [if_neg h]; rfl
theorem Q6 {α β ρ : Type} (l : List α) (l' : List β) (hlen : l.length = l'.length) (L : Nat → Nat → Int → Option (LR Unit ρ)) (step : Nat → α → β → Option Bool) (p : α → β → Bool) (r : ρ)
  (hL : ∀ n k i, L n (k + 1) i = cond (decide (i < (l.length : Int))) ((idx l i).bind fun x => (idx l' i).bind fun y => (step n x y).bind fun b => cond b (some (.rt r)) (L n k (i + 1))) (some (.nx ())))
  (hp : ∀ x ∈ l, ∀ y, Ev (fun n => step n x y) (p x y)) : Ev (fun n => L n n 0) (cond ((l.zip l').any fun q => p q.1 q.2) (.rt r) (.nx ())) := by
 refine qh (l.zip l') L (fun n q => step n q.1 q.2) (fun q => p q.1 q.2) r (fun n k i => ?_) (fun q hq => hp q.1 (List.of_mem_zip hq).1 q.2)
 rw [hL, ← Tc l l' i fun x y => (step n x y).bind fun b => cond b (some (.rt r)) (L n k (i + 1))]
 have : ((l.zip l').length : Int) = (l.length : Int) := by rw [List.length_zip, ← hlen, Nat.min_self]
 rw [this]
mutual
def dx : Ty → Ty → Bool
 | .mk k n ks, .mk k' n' ks' => (k == k') && ((n == n') && qI ks ks')
def qI : List Ty → List Ty → Bool
 | [], [] => true
 | [], _ :: _ => false
 | _ :: _, [] => false
 | a :: ar, b :: br => dx a b && qI ar br
end
mutual
theorem zV : ∀ a b : Ty, dx a b = true → a = b
 | .mk k n ks, .mk k' n' ks', h => by
  simp only [dx, Bool.and_eq_true, beq_iff_eq] at h
  obtain ⟨h1, h2, h3⟩ := h
  rw [h1, h2, Kv ks ks' h3]
theorem Kv : ∀ a b : List Ty, qI a b = true → a = b
 | [], [], _ => rfl
 | [], _ :: _, h => by cases h
 | _ :: _, [], h => by cases h
 | a :: ar, b :: br, h => by
  simp only [qI, Bool.and_eq_true] at h
  rw [zV a b h.1, Kv ar br h.2]
end
mutual
theorem vC : ∀ a : Ty, dx a a = true
 | .mk k n ks => by simp only [dx, beq_self_eq_true, GV ks, Bool.and_self]
theorem GV : ∀ a : List Ty, qI a a = true
 | [] => rfl
 | a :: ar => by simp only [qI, vC a, GV ar, Bool.and_self]
end
theorem I7 : ∀ l l' : List Ty, l.length = l'.length → (l.zip l').any (fun q => !(dx q.1 q.2)) = !(qI l l')
 | [], [], _ => rfl
 | [], _ :: _, h => by cases h
 | _ :: _, [], h => by cases h
 | a :: ar, b :: br, h => by
  have := I7 ar br (by simpa using h)
  simp only [List.zip_cons_cons, List.any_cons, this, qI]
  cases dx a b <;> rfl
theorem Jy : ∀ l l' : List Ty, l.length ≠ l'.length → qI l l' = false
 | [], [], h => absurd rfl h
 | [], _ :: _, _ => rfl
 | _ :: _, [], _ => rfl
 | a :: ar, b :: br, h => by
  have := Jy ar br (by simpa using h)
  simp only [qI, this, Bool.and_false]
theorem rT : ∀ t u : Ty, Ev (fun n => dR n t u) (dx t u) := Ty.ind fun k nm ks ih u => by
 obtain ⟨k', nm', ks'⟩ := u
 refine Ev.succ ?_
 show Ev (fun n => mD n _ _ (.mk k nm ks) (.mk k' nm' ks')) _
 unfold mD
 simp only [Ty.kind, Ty.name, Ty.kids, dx]
 cases k == k' with
 | false => exact Ev.ret _
 | true =>
  cases nm == nm' with
  | false => exact Ev.ret _
  | true =>
   simp only [cond_true, Bool.true_and]
   refine Ev.bind (a := qI ks ks') (Ev.bind (a := qI ks ks') (Ev.succ ?_) (Ev.ret _)) (Ev.ret _)
   show Ev (fun n => gT n _ _ ks ks') _
   unfold gT
   simp only [bne]
   cases hl : (ks.length : Int) == (ks'.length : Int) with
   | false =>
    have : ks.length ≠ ks'.length := fun e => by simp [e] at hl
    rw [Jy ks ks' this]
    exact Ev.ret _
   | true =>
    have hlen : ks.length = ks'.length := by have := beq_iff_eq.1 hl; omega
    simp only [Bool.not_true, cond_false]
    have h := Q6 ks ks' hlen (fun n k'' i => iP n (fun p0 p1 => iH n p0 p1) (fun p0 p1 => dR n p0 p1) ks ks' k'' i) (fun n x y => (dR n x y).bind fun b => some (!b)) (fun x y => !(dx x y)) false
     (fun n k'' i => by
      show cond _ _ _ = _
      congr 1
      congr 1
      funext x
      congr 1
      funext y
      simp only [Option.bind_assoc, Option.bind_some])
     (fun x hx y => Ev.bind (ih x hx y) (Ev.ret _))
    rw [I7 ks ks' hlen] at h
    refine Ev.bind h ?_
    cases qI ks ks'
    ·exact Ev.ret _
    ·exact Ev.ret _
structure Joined (a b : Env) (cs : List Carrier) (ds : List Decl) : Prop where
 c1 : ∀ c ∈ a.carriers, c ∈ cs
 c2 : ∀ c ∈ b.carriers, c ∈ cs
 c3 : ∀ c ∈ cs, c ∈ a.carriers ∨ c ∈ b.carriers
 d1 : ∀ d ∈ a.names, d ∈ ds
 d2 : ∀ d ∈ b.names, d ∈ ds
 d3 : ∀ d ∈ ds, d ∈ a.names ∨ d ∈ b.names
 cl : cs.length ≤ a.carriers.length + b.carriers.length
 dl : ds.length ≤ a.names.length + b.names.length
end Abs
end Go.Proofs.YtiiaccpcoclklaaGreat
namespace Go.Proofs.YtiiaccpcoclklaaGreat
namespace Abs
open Go
theorem Tm.ind {P : Tm → Prop} (h : ∀ k n m t ks, (∀ t ∈ ks, P t) → P (.mk k n m t ks)) (t : Tm) : P t := by
 match t with
 | .mk k n m ty ks => exact h k n m ty ks fun u _ => Tm.ind h u
termination_by SizeOf.sizeOf t
decreasing_by
 rename_i hu
 have := List.sizeOf_lt_of_mem hu
 simp only [Tm.mk.sizeOf_spec]
 omega
def bY (op : Int) : Int :=
 cond ((op == 1 || (op == 2 || (op == 19 || (op == 20 || op == 29))))) 0
  (cond ((op == 3 || (op == 21 || (decide (46 ≤ op) && decide (op ≤ 52))))) 1 (cond (op == 28) (-1) (cond (decide (4 ≤ op) && decide (op ≤ 56)) 2 (-2))))
def bN (op : Int) : Bool := op == 8 || (op == 9 || (op == 55 || op == 56))
theorem SV (a b : Bool) : (cond a (some true) (some b)) = some (a || b) := by cases a <;> rfl
theorem Yz (a b : Bool) : (cond a (some a) (some b)) = some (a || b) := by cases a <;> rfl
theorem Ph (a b : Bool) : (cond a (some b) (some false)) = some (a && b) := by cases a <;> rfl
theorem Oi (n : Nat) (op : Int) : Al n op = some (bY op) := by
 unfold Al bY
 simp only [SV, Ph, Option.bind_some]
 cases (op == 1 || (op == 2 || (op == 19 || (op == 20 || op == 29)))) with
 | true => rfl
 | false =>
  cases (op == 3 || (op == 21 || (decide (46 ≤ op) && decide (op ≤ 52)))) with
  | true => rfl
  | false =>
   cases (op == 28) with
   | true => rfl
   | false => cases (decide (4 ≤ op) && decide (op ≤ 56)) <;> rfl
theorem Yj (op : Int) : ((decide (46 ≤ op) && decide (op ≤ 51)) || op == 52) = (decide (46 ≤ op) && decide (op ≤ 52)) := by
 by_cases h1 : 46 ≤ op
 ·by_cases h2 : op ≤ 51
  ·simp [h1, h2, show op ≤ 52 by omega]
  ·by_cases h3 : op = 52
   ·subst h3; rfl
   ·simp [h2, h3, show ¬ op ≤ 52 by omega]
 ·simp [h1, show op ≠ 52 by omega]
theorem Lp (n : Nat) (op : Int) : vI n op = some (cond (bY op == -2) (0, false) (bY op, true)) := by
 unfold vI bY
 simp only [Yz, Ph, Option.bind_some, Yj]
 cases h1 : (op == 1 || (op == 2 || (op == 19 || (op == 20 || op == 29)))) with
 | true => rfl
 | false =>
  cases h2 : (op == 3 || (op == 21 || (decide (46 ≤ op) && decide (op ≤ 52)))) with
  | true => rfl
  | false =>
   cases (op == 28) with
   | true => rfl
   | false =>
    simp only [Bool.or_eq_false_iff, beq_eq_false_iff_ne] at h1 h2
    have e : (decide (1 ≤ op) && decide (op ≤ 56)) = (decide (4 ≤ op) && decide (op ≤ 56)) := by
     by_cases h : 4 ≤ op
     ·simp [h, show 1 ≤ op by omega]
     ·simp [h, show ¬ 1 ≤ op by omega]
    rw [e]
    cases (decide (4 ≤ op) && decide (op ≤ 56)) <;> rfl
theorem QC (n : Nat) (op : Int) : pK n op = some (bN op) := by
 unfold pK bN
 simp only [SV, Option.bind_some]
theorem JD (n : Nat) (op : Int) : qw n op = some (bN op) := by
 unfold qw bN
 simp only [SV, Option.bind_some]
def wU (t : Ty) : Bool := t.kind == 0 && (t.name == [] && (t.kids.length : Int) == 0)
theorem ME (n : Nat) (t : Ty) : pF n t = some (wU t) := by
 unfold pF wU
 simp only [Ph, Option.bind_some]
theorem Ii (n : Nat) (t : Ty) : rE n t = some (wU t) := by
 unfold rE wU
 simp only [Ph, Option.bind_some]
def tJ (t : Tm) : Bool := cond (t.op == 20) (named t.name) (cond (bN t.op) (ident t.name) (t.name == []))
def BU (t : Tm) : Bool := cond (t.op == 19) (decide (0 ≤ t.n) && decide (t.n ≤ 1000000000)) (t.n == 0)
def SA (t : Tm) : Bool := cond (t.op == 29) (bV t.ty && t.ty.kind != 2) (wU t.ty)
def uZ (t : Tm) : Bool := !(bY t.op == -2) && cond (bY t.op == -1) (!((t.kids.length : Int) == 0)) ((t.kids.length : Int) == bY t.op)
def mG (t : Tm) : Bool := uZ t && (tJ t && (BU t && SA t))
theorem Py (t : Tm) (hs : t.name.length ≤ 9223372036854775807) : Ev (fun n => ru n t) (mG t) := by
 unfold ru mG
 simp only [Lp, Option.bind_some]
 have hfirst : Ev (fun n => ((((cond (!(cond (bY t.op == -2) ((0 : Int), false) (bY t.op, true)).2) (some (!(cond (bY t.op == -2) ((0 : Int), false) (bY t.op, true)).2)) (((cond ((cond (bY t.op == -2) ((0 : Int), false) (bY t.op, true)).1 == (-1)) (some ((t.kids.length : Int) == 0)) (some false)) : Option Bool).bind fun (s6 : Bool) => (cond s6 (some s6) (cond ((cond (bY t.op == -2) ((0 : Int), false) (bY t.op, true)).1 != (-1)) (some ((t.kids.length : Int) != (cond (bY t.op == -2) ((0 : Int), false) (bY t.op, true)).1)) (some false))))) : Option Bool)).bind fun (s5 : Bool) => (cond s5 (some (.rt false)) (cond (t.op == 20) ((wO n t.name).bind fun (x4 : Bool) => some (.nx x4)) ((pK n t.op).bind fun (x5 : Bool) => (cond x5 ((dI n t.name).bind fun (x6 : Bool) => some (.nx x6)) (some (.nx (t.name == ([] : Str)))))))) : Option (LR Bool Bool))) (cond (uZ t) (.nx (tJ t)) (.rt false)) := by
  refine Ev.bind (a := !(uZ t)) ?_ ?_
  ·refine Ev.of fun n => ?_
   unfold uZ
   cases h2 : bY t.op == -2 with
   | true => rfl
   | false =>
    simp only [cond_false, Bool.not_true, Bool.not_false, Bool.true_and]
    cases h1 : bY t.op == -1 with
    | true =>
     simp only [cond_true, Option.bind_some, bne, h1, Bool.not_true, cond_false]
     cases (t.kids.length : Int) == 0 <;> rfl
    | false =>
     simp only [cond_false, Option.bind_some, bne, h1, Bool.not_false, cond_true]
  ·cases uZ t with
   | false => exact Ev.ret _
   | true =>
    simp only [Bool.not_true, cond_false, cond_true, tJ, QC, Option.bind_some]
    cases t.op == 20 with
    | true =>
     refine Ev.bind (a := named t.name) ?_ (Ev.ret _)
     exact Fu t.name hs
    | false =>
     cases bN t.op with
     | true => exact Ev.bind (kY _) (Ev.ret _)
     | false => exact Ev.ret _
 refine Ev.bind hfirst ?_
 cases uZ t with
 | false => exact Ev.ret _
 | true =>
  simp only [cond_true, Bool.true_and]
  refine Ev.bind (a := tJ t && BU t) ?_ ?_
  ·unfold BU
   refine Ev.of fun n => ?_
   cases t.op == 19 <;> cases tJ t <;> cases decide (0 ≤ t.n) <;> rfl
  ·unfold SA
   cases t.op == 29 with
   | true =>
    simp only [cond_true]
    refine Ev.bind (a := tJ t && (BU t && (bV t.ty && t.ty.kind != 2))) ?_ (Ev.ret _)
    cases tJ t with
    | false => exact Ev.ret _
    | true =>
     cases BU t with
     | false => exact Ev.ret _
     | true =>
      simp only [Bool.true_and, cond_true]
      cases hk : t.ty.kind != 2 with
      | false => simp only [cond_false, Bool.and_false]; exact Ev.ret _
      | true => simp only [cond_true, Bool.and_true]; exact Ev.bind (ou _) (Ev.ret _)
   | false =>
    simp only [cond_false, ME, Option.bind_some]
    refine Ev.of fun n => ?_
    cases tJ t <;> cases BU t <;> rfl
theorem Oe (t : Tm) : Ev (fun n => zX n t) (mG t) := by
 unfold zX mG
 simp only [Oi, Option.bind_some]
 refine Ev.bind (a := !(uZ t)) ?_ ?_
 ·refine Ev.of fun n => ?_
  unfold uZ
  cases h2 : bY t.op == -2 with
  | true => rfl
  | false =>
   simp only [cond_false, Bool.not_true, Bool.not_false, Bool.true_and]
   cases h1 : bY t.op == -1 with
   | true =>
    have e : bY t.op = -1 := by simpa using h1
    rw [e]
    cases (t.kids.length : Int) == 0 <;> rfl
   | false =>
    have hge : decide (0 ≤ bY t.op) = true := by
     unfold bY at h1 h2 ⊢
     revert h1 h2
     cases (t.op == 1 || (t.op == 2 || (t.op == 19 || (t.op == 20 || t.op == 29)))) <;> cases (t.op == 3 || (t.op == 21 || (decide (46 ≤ t.op) && decide (t.op ≤ 52)))) <;> cases (t.op == 28) <;> cases (decide (4 ≤ t.op) && decide (t.op ≤ 56)) <;> intro h1 h2 <;> first | rfl | exact absurd h1 (by decide) | exact absurd h2 (by decide)
    simp only [cond_false, hge, cond_true, bne]
 ·cases uZ t with
  | false => exact Ev.ret _
  | true =>
   simp only [Bool.not_true, cond_false, Bool.true_and]
   refine Ev.bind (a := cond (tJ t) (.nx ()) (.rt false)) ?_ ?_
   ·unfold tJ
    simp only [JD, Option.bind_some]
    cases t.op == 20 with
    | true =>
     refine Ev.bind (LY _) ?_
     simp only [cond_true]
     cases named t.name
     ·exact Ev.ret _
     ·exact Ev.ret _
    | false =>
     simp only [cond_false]
     cases bN t.op with
     | true =>
      refine Ev.bind (oM _) ?_
      simp only [cond_true]
      cases ident t.name
      ·exact Ev.ret _
      ·exact Ev.ret _
     | false =>
      simp only [cond_false]
      cases t.name == ([] : Str)
      ·exact Ev.ret _
      ·exact Ev.ret _
   ·cases tJ t with
    | false => exact Ev.ret _
    | true =>
     simp only [cond_true, Bool.true_and]
     refine Ev.bind (a := !(BU t)) ?_ ?_
     ·refine Ev.of fun n => ?_
      unfold BU
      cases h19 : t.op == 19 with
      | true =>
       simp only [cond_true, bne, h19, Bool.not_true, cond_false]
       by_cases h0 : t.n < 0
       ·rw [decide_eq_true h0, decide_eq_false (show ¬ 0 ≤ t.n by omega)]; rfl
       ·rw [decide_eq_false h0, decide_eq_true (show 0 ≤ t.n by omega)]
        by_cases hb : 1000000000 < t.n
        ·rw [decide_eq_true hb, decide_eq_false (show ¬ t.n ≤ 1000000000 by omega)]; rfl
        ·rw [decide_eq_false hb, decide_eq_true (show t.n ≤ 1000000000 by omega)]; rfl
      | false => simp only [cond_false, bne, h19, Bool.not_false, cond_true]
     ·cases BU t with
      | false => exact Ev.ret _
      | true =>
       simp only [Bool.not_true, cond_false, Bool.true_and]
       unfold SA
       cases t.op == 29 with
       | true =>
        simp only [cond_true]
        refine Ev.bind (a := bV t.ty && t.ty.kind != 2) (Ev.bind (GH _) ?_) (Ev.ret _)
        cases bV t.ty
        ·exact Ev.ret _
        ·exact Ev.ret _
       | false =>
        simp only [cond_false, Ii, Option.bind_some]
        exact Ev.ret _
mutual
def mf : Tm → Int → Int → Bool × Int
 | .mk op nm m ty ks, d, c => cond ((decide (c + 1 ≤ 2000) && decide (d ≤ 64)) && mG (.mk op nm m ty ks)) (lT ks (d + 1) (c + 1)) (false, c + 1)
def lT : List Tm → Int → Int → Bool × Int
 | [], _, c => (true, c)
 | t :: ts, d, c => cond (mf t d c).1 (lT ts d (mf t d c).2) (false, (mf t d c).2)
end
mutual
theorem AB : ∀ (t : Tm) (d c : Int), (mf t d c).1 = true → c < (mf t d c).2 ∧ (mf t d c).2 ≤ 2000
 | .mk op nm m ty ks, d, c, h => by
  simp only [mf] at h ⊢
  cases hb : ((decide (c + 1 ≤ 2000) && decide (d ≤ 64)) && mG (.mk op nm m ty ks)) with
  | false => rw [hb] at h; cases h
  | true =>
   rw [hb] at h
   simp only [cond_true] at h ⊢
   simp only [Bool.and_eq_true, decide_eq_true_eq] at hb
   have := G5 ks (d + 1) (c + 1) h
   omega
theorem G5 : ∀ (ts : List Tm) (d c : Int), (lT ts d c).1 = true → c ≤ (lT ts d c).2 ∧ (c ≤ 2000 → (lT ts d c).2 ≤ 2000)
 | [], _, c, _ => by simp [lT]
 | t :: ts, d, c, h => by
  simp only [lT] at h ⊢
  cases hb : (mf t d c).1 with
  | false => rw [hb] at h; cases h
  | true =>
   rw [hb] at h
   simp only [cond_true] at h ⊢
   have h1 := AB t d c hb
   have h2 := G5 ts d _ h
   exact ⟨by omega, fun _ => h2.2 h1.2⟩
end
mutual
def gU : Tm → Prop
 | .mk _ nm _ _ ks => nm.length ≤ 9223372036854775807 ∧ vO ks
def vO : List Tm → Prop
 | [] => True
 | t :: ts => gU t ∧ vO ts
end
theorem KJ : ∀ {ts : List Tm}, vO ts → ∀ t ∈ ts, gU t
 | [], _, t, h => by cases h
 | u :: ts, h, t, ht => by
  simp only [vO] at h
  rcases List.mem_cons.1 ht with rfl | ht
  ·exact h.1
  ·exact KJ h.2 t ht
theorem PI (n : Nat) (c d : Int) (h0 : 0 ≤ c) (h1 : c ≤ 2000) : gH n c 2000 64 d = some (decide (c + 1 ≤ 2000) && decide (d ≤ 64), c + 1) := by
 unfold gH
 rw [wrap64 (by omega) (by omega)]
 cases decide (c + 1 ≤ 2000) <;> rfl
def Wh (t : Tm) : Prop := gU t → ∀ d c : Int, 1 ≤ d → d ≤ 65 → 0 ≤ c → c ≤ 2000 → Ev (fun n => dV n c 2000 64 t d) (mf t d c)
theorem Nw (d : Int) : ∀ (ts : List Tm) (i c : Int), 0 ≤ i → (∃ j, 0 ≤ j ∧ (lT ts d c).1 = false ∧ kU (τ := Int) (fun i x s => cond (!(mf x d s).1) (.rt (i, (mf x d s).2)) (.nx (mf x d s).2)) (fun s => s) i ts c = .rt (j, (lT ts d c).2)) ∨ ((lT ts d c).1 = true ∧ kU (ρ := Int × Int) (fun i x s => cond (!(mf x d s).1) (.rt (i, (mf x d s).2)) (.nx (mf x d s).2)) (fun s => s) i ts c = .nx (lT ts d c).2)
 | [], i, c, _ => .inr ⟨rfl, rfl⟩
 | t :: ts, i, c, hi => by
  simp only [lT, kU]
  cases hb : (mf t d c).1 with
  | false => exact .inl ⟨i, hi, rfl, rfl⟩
  | true => exact Nw d ts (i + 1) _ (by omega)
theorem Og (ts : List Tm) (h : ∀ t ∈ ts, Wh t) (hS : vO ts) (d c : Int) (hd : 1 ≤ d) (hd6 : d ≤ 64) (h0 : 0 ≤ c) (h1 : c ≤ 2000) : Ev (fun n => dz n ts c 2000 64 d) (!(lT ts (d + 1) c).1, (lT ts (d + 1) c).2) := by
 refine Ev.succ ?_
 show Ev (fun n => fJ n _ _ _ _ ts c 2000 64 d) _
 unfold fJ
 have hloop := II ts (fun n k i s => iT n (fun p0 p1 p2 p3 p4 => eH n p0 p1 p2 p3 p4) (fun p0 p1 p2 p3 p4 => dz n p0 p1 p2 p3 p4) (fun p0 p1 p2 p3 p4 => dV n p0 p1 p2 p3 p4) (fun p0 p1 p2 p3 p4 => dH n p0 p1 p2 p3 p4) ts 2000 64 d k (i, s))
  (fun n i x s => (dH n x s 2000 64 d).bind fun x2 => cond x2.1 (some (.rt (i, x2.2))) (some (.nx x2.2))) (fun i x s => cond (!(mf x (d + 1) s).1) (.rt (i, (mf x (d + 1) s).2)) (.nx (mf x (d + 1) s).2)) (fun s => s) (fun _ _ s => 0 ≤ s ∧ s ≤ 2000)
  (fun n k i s => by
   show cond _ _ _ = _
   congr 1
   congr 1
   funext x
   dsimp only
   cases dH n x s 2000 64 d with
   | none => rfl
   | some b => obtain ⟨b, e⟩ := b; cases b <;> rfl)
  (fun i x suf s hx hs => ⟨by
   have hfit : Ev (fun n => dH n x s 2000 64 d) (!(mf x (d + 1) s).1, (mf x (d + 1) s).2) := by
    refine Ev.succ ?_
    show Ev (fun n => iN n _ _ _ _ x s 2000 64 d) _
    unfold iN
    have := h x hx (KJ hS x hx) (d + 1) s (by omega) (by omega) hs.1 hs.2
    rw [wrap64 (by omega) (by omega)]
    exact Ev.bind this (Ev.ret _)
   refine Ev.bind hfit ?_
   cases (mf x (d + 1) s).1
   ·exact Ev.ret _
   ·exact Ev.ret _, fun s' he => by
    cases hb : (mf x (d + 1) s).1 with
    | false => rw [hb] at he; cases he
    | true =>
     rw [hb] at he
     simp only [Bool.not_true, cond_false, LR.nx.injEq] at he
     have := AB x (d + 1) s hb
     omega⟩) (s0 := c) ⟨h0, h1⟩
 rcases Nw (d + 1) ts 0 c (Int.le_refl _) with ⟨j, hj, hf, hr⟩ | ⟨ht, hr⟩
 ·rw [hr] at hloop
  refine Ev.bind (a := (j, (lT ts (d + 1) c).2)) (Ev.succ ?_) ?_
  ·show Ev (fun n => dO n _ _ _ _ ts c 2000 64 d) _
   unfold dO
   exact Ev.bind hloop (Ev.ret _)
  ·rw [hf]
   simp only [decide_eq_true hj]
   exact Ev.ret _
 ·rw [hr] at hloop
  refine Ev.bind (a := (-1, (lT ts (d + 1) c).2)) (Ev.succ ?_) ?_
  ·show Ev (fun n => dO n _ _ _ _ ts c 2000 64 d) _
   unfold dO
   exact Ev.bind hloop (Ev.ret _)
  ·rw [ht]
   exact Ev.ret _
theorem Xn : ∀ t : Tm, Wh t := Tm.ind fun op nm m ty ks ih hS d c hd hd7 h0 h1 => by
 refine Ev.succ ?_
 show Ev (fun n => jC n _ _ _ _ c 2000 64 (.mk op nm m ty ks) d) _
 unfold jC
 simp only [gU] at hS
 simp only [PI _ c d h0 h1, Option.bind_some, mf]
 cases hb : (decide (c + 1 ≤ 2000) && decide (d ≤ 64)) with
 | false => exact Ev.ret _
 | true =>
  simp only [Bool.and_eq_true, decide_eq_true_eq] at hb
  simp only [Bool.not_true, cond_false, Bool.true_and]
  refine Ev.bind (a := (!(mG (.mk op nm m ty ks)), c + 1)) (Ev.bind (Py (.mk op nm m ty ks) hS.1) (Ev.ret _)) ?_
  cases mG (.mk op nm m ty ks) with
  | false => exact Ev.ret _
  | true =>
   simp only [Bool.not_true, cond_false, cond_true]
   refine Ev.bind (Og ks ih hS.2 d (c + 1) hd hb.2 (by omega) hb.1) ?_
   simp only [Bool.not_not]
   exact Ev.ret _
def jQ (t : Tm) : Bool := (mf t 1 0).1
theorem vQ (t : Tm) (hS : gU t) : Ev (fun n => oZ n t) (jQ t) := by
 unfold oZ
 exact Ev.bind (Xn t hS 1 0 (by omega) (by omega) (by omega) (by omega)) (Ev.ret _)
def mt (t : Tm) (d c : Int) : Int := cond (mf t d c).1 (mf t d c).2 (-1)
def Wt (t : Tm) : Prop := ∀ d c : Int, 1 ≤ d → d ≤ 65 → 0 ≤ c → c ≤ 2000 → Ev (fun n => nX n t d c) (mt t d c)
theorem MX (d : Int) : ∀ (ts : List Tm) (c : Int), 0 ≤ c → rW (τ := Int) (fun x s => cond (decide (mt x d s < 0)) (.rt (-1)) (.nx (mt x d s))) (fun s => s) ts c = cond (lT ts d c).1 (.nx (lT ts d c).2) (.rt (-1))
 | [], c, _ => rfl
 | t :: ts, c, h0 => by
  simp only [lT, rW]
  by_cases hb : (mf t d c).1 = true
  ·have h1 := AB t d c hb
   have h2 : mt t d c = (mf t d c).2 := by simp only [mt, hb, cond_true]
   have h3 : decide ((mf t d c).2 < 0) = false := decide_eq_false (by omega)
   simp only [h2, h3, hb, cond_true, cond_false]
   exact MX d ts (mf t d c).2 (by omega)
  ·have hb' : (mf t d c).1 = false := by simpa using hb
   have h2 : mt t d c = -1 := by simp only [mt, hb', cond_false]
   have h3 : decide (mt t d c < 0) = true := decide_eq_true (by omega)
   simp only [h3, hb', cond_true, cond_false]
theorem nodes : ∀ t : Tm, Wt t := Tm.ind fun op nm m ty ks ih d c hd hd7 h0 h1 => by
 refine Ev.succ ?_
 show Ev (fun n => pG n _ (.mk op nm m ty ks) d c) _
 unfold pG
 simp only [mt, mf]
 rw [wrap64 (by omega) (by omega)]
 by_cases hd6 : d ≤ 64
 case neg =>
  rw [decide_eq_true (show 64 < d by omega), decide_eq_false hd6]
  simp only [Bool.and_false, Bool.false_and, cond_false]
  exact Ev.ret _
 by_cases hc : c + 1 ≤ 2000
 case neg =>
  rw [decide_eq_false (show ¬ 64 < d by omega), decide_eq_true (show 2000 < c + 1 by omega), decide_eq_false hc]
  simp only [Bool.false_and, cond_false, cond_true]
  exact Ev.ret _
 rw [decide_eq_false (show ¬ 64 < d by omega), decide_eq_false (show ¬ 2000 < c + 1 by omega), decide_eq_true hd6, decide_eq_true hc]
 simp only [cond_false, Bool.true_and]
 refine Ev.bind (a := !(mG (.mk op nm m ty ks))) (Ev.bind (Oe _) (Ev.ret _)) ?_
 cases mG (.mk op nm m ty ks) with
 | false => exact Ev.ret _
 | true =>
  simp only [Bool.not_true, cond_false, cond_true]
  have hloop := Ae ks (fun n k' i s => qZ n (fun p0 p1 p2 => nX n p0 p1 p2) (.mk op nm m ty ks) d k' (s, i)) (fun n x s => (nX n x (IntKind.wrap .i64 (d + 1)) s).bind fun x2 => cond (decide (x2 < 0)) (some (.rt (-1))) (some (.nx x2)))
   (fun x s => cond (decide (mt x (d + 1) s < 0)) (.rt (-1)) (.nx (mt x (d + 1) s))) (fun s => s) (fun _ s => 0 ≤ s ∧ s ≤ 2000)
   (fun n k' i s => by
    show cond _ _ _ = _
    congr 1
    show (idx ks i).bind _ = _
    congr 1
    funext x
    dsimp only
    cases nX n x (IntKind.wrap .i64 (d + 1)) s with
    | none => rfl
    | some b => simp only [Option.bind_some]; cases decide (b < 0) <;> rfl)
   (fun x suf s hx hs => ⟨by
    rw [wrap64 (by omega) (by omega)]
    refine Ev.bind (ih x hx (d + 1) s (by omega) (by omega) hs.1 hs.2) ?_
    cases decide (mt x (d + 1) s < 0)
    ·exact Ev.ret _
    ·exact Ev.ret _, fun s' he => by
     cases hb : decide (mt x (d + 1) s < 0) with
     | true => rw [hb] at he; cases he
     | false =>
      rw [hb] at he
      simp only [cond_false, LR.nx.injEq] at he
      have hneg : ¬ mt x (d + 1) s < 0 := of_decide_eq_false hb
      subst he
      unfold mt at hneg ⊢
      cases hb2 : (mf x (d + 1) s).1 with
      | false => rw [hb2] at hneg; simp at hneg
      | true => have := AB x (d + 1) s hb2; simp only [cond_true]; omega⟩) (s0 := c + 1) ⟨by omega, hc⟩
  rw [MX _ _ _ (by omega)] at hloop
  refine Ev.bind hloop ?_
  cases (lT ks (d + 1) (c + 1)).1
  ·exact Ev.ret _
  ·exact Ev.ret _
theorem Me (t : Tm) : Ev (fun n => xI n t) (jQ t) := by
 unfold xI
 refine Ev.bind (nodes t 1 0 (by omega) (by omega) (by omega) (by omega)) ?_
 unfold mt jQ
 cases hb : (mf t 1 0).1 with
 | false => exact Ev.ret _
 | true =>
  have := AB t 1 0 hb
  simp only [cond_true]
  rw [decide_eq_true (by omega)]
  exact Ev.ret _
end Abs
end Go.Proofs.YtiiaccpcoclklaaGreat
namespace Go.Proofs.YtiiaccpcoclklaaGreat
namespace Abs
open Go Go.Proofs Go.Deep Go.WideShapes
instance : Inhabited Tm := ⟨.mk 0 [] 0 (.mk 0 [] []) []⟩
theorem VQ : Tryz.prog.cellsOf 31 = 7 := by kernel_rfl
theorem XR : Tryz.prog.cellsOf 29 = 1 := by kernel_rfl
theorem C8 (t : Tm) : (aY t).length = 7 := by rw [bG]; rfl
section
variable {H : Type} {enc : TypeId × Value → H} {w : World} {base : Nat} {spare : Nat → Bool} {held : Bool} {κ : bH} {pv : eX}
set_option maxRecDepth 100000 in
theorem Rb (hpv : ∀ b o, ¬ pv b o) (fuel : Nat) : Reads enc Tryz.prog w base spare held κ pv 31 aY fuel := by
 induction fuel using Nat.strongRecOn with
 | _ fuel ih =>
  intro cs x h
  obtain ⟨xs, n, rfl, _, hl, hlen, hf⟩ := DataW.trod_struct Tryz.underlying31 h
  rw [VQ] at hl
  match cs, hl with
  | [c0, c1, c2, c3, c4, c5, c6], _ =>
   obtain ⟨y0, e0⟩ := tO (i := 0) hlen (by decide)
   obtain ⟨y1, e1⟩ := tO (i := 1) hlen (by decide)
   obtain ⟨y2, e2⟩ := tO (i := 2) hlen (by decide)
   obtain ⟨y3, e3⟩ := tO (i := 3) hlen (by decide)
   obtain ⟨y4, e4⟩ := tO (i := 4) hlen (by decide)
   have h0 := hf 0 _ rfl
   have h1 := hf 1 _ rfl
   have h2 := hf 2 _ rfl
   have h3 := hf 3 _ rfl
   have h4 := hf 4 _ rfl
   simp only [e0, V8, List.drop_zero, List.take_succ_cons, List.take_zero] at h0
   simp only [e1, Qq, List.drop_succ_cons, List.drop_zero, List.take_succ_cons, List.take_zero] at h1
   simp only [e2, V8, List.drop_succ_cons, List.drop_zero, List.take_succ_cons, List.take_zero] at h2
   simp only [e3, OL, List.drop_succ_cons, List.drop_zero, List.take_succ_cons, List.take_zero] at h3
   simp only [e4, XR, List.drop_succ_cons, List.drop_zero, List.take_succ_cons, List.take_zero] at h4
   obtain ⟨k, hk⟩ := D5 (κ := κ) (pv := pv) Tryz.underlying3 n _ _ h0
   obtain ⟨nm, hn⟩ := vk (κ := κ) (pv := pv) Tryz.underlying9 n _ _ h1
   obtain ⟨m, hm⟩ := D5 (κ := κ) (pv := pv) Tryz.underlying3 n _ _ h2
   obtain ⟨t, ht⟩ := KQ hpv n _ _ h3
   obtain ⟨ks, hks⟩ := rG (f := aY) Tryz.underlying29 VQ (by decide) C8 hpv (fun m hm => ih m (by omega)) _ _ h4
   refine ⟨.mk k nm m t ks, ?_⟩
   have := hk.app (hn.app (hm.app (ht.app hks)))
   rw [aR] at this
   rw [bG]
   exact this
end
theorem Nc : ∀ {ts : List Tm}, (∀ t ∈ ts, gU t) → vO ts
 | [], _ => trivial
 | t :: ts, h => by
  simp only [vO]
  exact ⟨h t (List.mem_cons_self ..), Nc fun u hu => h u (List.mem_cons_of_mem _ hu)⟩
theorem PK {w : World} {κ : bH} {pv : eX} {ts : List Tm} {u : Value} (ih : ∀ t ∈ ts, ∀ f : Nat → Value, (∀ j, j < 7 → Rel w κ pv ((aY t).getD j .unk) (f j)) → gU t) (h : Rel w κ pv (.slice (ts.map aY) .shared) u) : ∀ t ∈ ts, gU t := by
 intro t ht
 obtain ⟨i, hi, rfl⟩ := List.mem_iff_getElem.1 ht
 cases h with
 | slice b off sz f h1 h2 h3 h3' h4 h5 h6 _ =>
  have hi' : i < (ts.map aY).length := by simpa using hi
  have eg : (ts.map aY).getD i [] = aY ts[i] := by simp [List.getD, List.getElem?_map, List.getElem?_eq_getElem hi]
  have hsz := h1 i hi'
  rw [eg, C8] at hsz
  refine ih _ (List.getElem_mem hi) (f i) fun j hj => ?_
  have := h6 i j hi' (by omega)
  rw [eg] at this
  exact this
theorem RJ {w : World} {κ : bH} {pv : eX} : ∀ t : Tm, ∀ f : Nat → Value, (∀ j, j < 7 → Rel w κ pv ((aY t).getD j .unk) (f j)) → gU t := Tm.ind fun op nm m ty ks ih f h => by
 have h1 := h 1 (by decide)
 have h6 := h 6 (by decide)
 rw [bG] at h1 h6
 simp only [gU]
 refine ⟨?_, Nc (PK ih h6)⟩
 have h1' : Rel w κ pv (.str nm) (f 1) := h1
 generalize f 1 = g at h1'
 cases h1'
 assumption
theorem Sv {t : Tm} {w : World} {κ : bH} {pv : eX} {v : Value} (h : Rel w κ pv (.agg (aY t)) v) : gU t := by
 cases h with
 | @agg _ vs hl hj => exact RJ t (fun j => vs.getD j undef) fun j h => hj j (by rw [C8]; exact h)
end Abs
end Go.Proofs.YtiiaccpcoclklaaGreat
namespace Go.Proofs.YtiiaccpcoclklaaGreat
namespace Abs
open Go
def dn : Ty := .mk 2 [] []
def j6 : Ty := .mk 1 [] []
def dJ (a b : Ty) : Ty := .mk 4 [] [a, b]
inductive Good : Ty → Prop where
 | int : Good j6
 | car (nm : Str) : Good (vE nm)
 | pair {a b : Ty} : Good a → Good b → Good (dJ a b)
 | set {a : Ty} : Good a → Good (bq a)
def Top (t : Ty) : Prop := t = dn ∨ Good t
mutual
theorem UR : ∀ (t : Ty) (d c : Int), 1 < d → (pf t d c).1 = true → Good t
 | .mk k nm ks, d, c, hd, h => by
  simp only [pf] at h
  cases hb : ((decide (c + 1 ≤ 16) && decide (d ≤ 6)) && eu k nm ks.length d) with
  | false => rw [hb] at h; cases h
  | true =>
   rw [hb] at h
   simp only [cond_true] at h
   have hk := FP ks (d + 1) (c + 1) (by omega) h
   simp only [Bool.and_eq_true, eu, decide_eq_true_eq, Bool.or_eq_true, beq_iff_eq, Bool.not_eq_true', Bool.and_eq_false_iff, beq_eq_false_iff_ne, decide_eq_false_iff_not] at hb
   obtain ⟨_, h2, h3, h4⟩ := hb
   have hk2 : k ≠ 2 := by rcases h2 with h2 | h2 <;> omega
   rcases h3 with ⟨h5, h6⟩ | ⟨h5, h6⟩ | ⟨h5, h6⟩
   ·have hks : ks = [] := List.length_eq_zero_iff.1 h6
    subst hks
    rcases h5 with rfl | rfl | rfl
    ·have : nm = [] := by simpa using h4
     subst this; exact .int
    ·exact absurd rfl hk2
    ·exact .car nm
   ·subst h5
    have : nm = [] := by simpa using h4
    subst this
    match ks, h6, hk with
    | [a, b], _, hk => exact .pair (hk a (by simp)) (hk b (by simp))
   ·subst h5
    have : nm = [] := by simpa using h4
    subst this
    match ks, h6, hk with
    | [a], _, hk => exact .set (hk a (by simp))
theorem FP : ∀ (ts : List Ty) (d c : Int), 1 < d → (iO ts d c).1 = true → ∀ t ∈ ts, Good t
 | [], _, _, _, _, t, ht => by cases ht
 | u :: ts, d, c, hd, h, t, ht => by
  simp only [iO] at h
  cases hb : (pf u d c).1 with
  | false => rw [hb] at h; cases h
  | true =>
   rw [hb] at h
   rcases List.mem_cons.1 ht with he | ht
   ·rw [he]; exact UR u d c hd hb
   ·exact FP ts d _ hd h t ht
end
theorem Ju {t : Ty} (h : bV t = true) : Top t := by
 obtain ⟨k, nm, ks⟩ := t
 unfold bV at h
 simp only [pf] at h
 cases hb : ((decide ((0 : Int) + 1 ≤ 16) && decide ((1 : Int) ≤ 6)) && eu k nm ks.length 1) with
 | false => rw [hb] at h; cases h
 | true =>
  rw [hb] at h
  simp only [cond_true] at h
  have hk := FP ks (1 + 1) (0 + 1) (by omega) h
  simp only [Bool.and_eq_true, eu, decide_eq_true_eq, Bool.or_eq_true, beq_iff_eq, Bool.not_eq_true', Bool.and_eq_false_iff, beq_eq_false_iff_ne, decide_eq_false_iff_not] at hb
  obtain ⟨_, _, h3, h4⟩ := hb
  rcases h3 with ⟨h5, h6⟩ | ⟨h5, h6⟩ | ⟨h5, h6⟩
  ·have hks : ks = [] := List.length_eq_zero_iff.1 h6
   subst hks
   rcases h5 with rfl | rfl | rfl
   ·have : nm = [] := by simpa using h4
    subst this; exact .inr .int
   ·have : nm = [] := by simpa using h4
    subst this; exact .inl rfl
   ·exact .inr (.car nm)
  ·subst h5
   have : nm = [] := by simpa using h4
   subst this
   match ks, h6, hk with
   | [a, b], _, hk => exact .inr (.pair (hk a (by simp)) (hk b (by simp)))
  ·subst h5
   have : nm = [] := by simpa using h4
   subst this
   match ks, h6, hk with
   | [a], _, hk => exact .inr (.set (hk a (by simp)))
theorem T9 {t : Ty} (h : Good t) : xP t = true := by
 induction h with
 | int => rfl
 | car nm => rfl
 | pair _ _ h1 h2 => simp [dJ, xP, zw, h1, h2]
 | set _ h1 => simp [bq, xP, zw, h1]
theorem Wu {t : Ty} (h : Top t) : xP t = true := by
 rcases h with rfl | h
 ·rfl
 ·exact T9 h
theorem Qu {t : Ty} (h : Good t) : (t.kind == 2) = false := by cases h <;> rfl
def cu (t : Ty) : Option Ty := cond (t.kind == 5) t.kids.head? none
def gM (t : Ty) : Option (Ty × Ty) := (cu t).bind fun p => cond (p.kind == 4) (p.kids.head?.bind fun a => (p.kids.drop 1).head?.map fun b => (a, b)) none
theorem F3 (a : Ty) : cu (bq a) = some a := rfl
theorem KI (a b : Ty) : gM (bq (dJ a b)) = some (a, b) := rfl
theorem yR {t : Ty} (h : Top t) : (∃ e, t = bq e ∧ Good e) ∨ ((t.kind == 5) = false ∧ cu t = none ∧ gM t = none) := by
 rcases h with rfl | h
 ·exact .inr ⟨rfl, rfl, rfl⟩
 ·cases h with
  | int => exact .inr ⟨rfl, rfl, rfl⟩
  | car nm => exact .inr ⟨rfl, rfl, rfl⟩
  | pair _ _ => exact .inr ⟨rfl, rfl, rfl⟩
  | set h => exact .inl ⟨_, rfl, h⟩
theorem QK {t : Ty} (h : Top t) : (∃ a b, t = bq (dJ a b) ∧ Good a ∧ Good b) ∨ gM t = none := by
 rcases yR h with ⟨e, rfl, he⟩ | ⟨_, _, h⟩
 ·cases he with
  | int => exact .inr rfl
  | car nm => exact .inr rfl
  | pair h1 h2 => exact .inl ⟨_, _, rfl, h1, h2⟩
  | set h => exact .inr rfl
 ·exact .inr h
theorem DR {t e : Ty} (h : Top t) (he : cu t = some e) : Good e ∧ t = bq e := by
 rcases yR h with ⟨e', rfl, hg⟩ | ⟨_, h, _⟩
 ·rw [F3] at he; cases he; exact ⟨hg, rfl⟩
 ·rw [h] at he; cases he
theorem JA {t a b : Ty} (h : Top t) (he : gM t = some (a, b)) : Good a ∧ Good b ∧ t = bq (dJ a b) := by
 rcases QK h with ⟨a', b', rfl, hg⟩ | h
 ·rw [KI] at he; cases he; exact ⟨hg.1, hg.2, rfl⟩
 ·rw [h] at he; cases he
def MP (o : Option Ty) : Ty × Bool := match o with | some e => (e, true) | none => (bM, false)
def Qd (o : Option (Ty × Ty)) : Ty × Ty × Bool := match o with | some e => (e.1, e.2, true) | none => (bM, bM, false)
theorem fB (n : Nat) {t : Ty} (h : Top t) : bJ n t = some (MP (cu t)) := by
 rcases yR h with ⟨e, rfl, _⟩ | ⟨h1, h2, _⟩
 ·rfl
 ·unfold bJ
  rw [h2, bne, h1]
  rfl
theorem om (n : Nat) {t : Ty} (h : Top t) : fA n t = some (Qd (gM t)) := by
 unfold fA
 rw [fB n h]
 rcases yR h with ⟨e, rfl, he⟩ | ⟨_, h2, h3⟩
 ·cases he <;> rfl
 ·rw [h2, h3]; rfl
def bL (b : Bool) (t : Ty) : Option Ty := cond b (some t) none
def qV (q : Int) (l : List Ty) : Bool := l.all fun x => x.kind == q
def KH (op : Int) (l : List Ty) : Option Ty :=
 let a := l.headD bM
 let b := (l.drop 1).headD bM
 cond (decide (op ≤ 2)) (some dn) <|
 cond (decide (op ≤ 7)) (bL (qV 2 l) dn) <|
 cond (decide (op ≤ 9)) (bL ((cu a).isSome && b.kind == 2) dn) <|
 cond (decide (op ≤ 11)) (bL (a.kind != 2 && dx a b) dn) <|
 cond (decide (op ≤ 15)) (bL (qV 1 l) dn) <|
 cond (decide (op ≤ 17)) ((cu b).bind fun e => bL (dx a e) dn) <|
 cond (decide (op ≤ 18)) (bL ((cu a).isSome && dx a b) dn) <|
 cond (decide (op ≤ 19)) (some j6) <|
 cond (decide (op ≤ 26)) (bL (qV 1 l) j6) <|
 cond (decide (op ≤ 27)) (bL (a.kind != 2 && b.kind != 2) (dJ a b)) <|
 cond (decide (op ≤ 28)) (bL (a.kind != 2 && l.all fun x => dx x a) (bq a)) <|
 cond (decide (op ≤ 30)) (bL (qV 1 l) (bq j6)) <|
 cond (decide (op ≤ 33)) (bL ((cu a).isSome && dx a b) a) <|
 cond (decide (op ≤ 34)) ((cu a).bind fun x => (cu b).map fun y => bq (dJ x y)) <|
 cond (decide (op ≤ 35)) (bL ((gM a).isSome && dx a b) a) <|
 cond (decide (op ≤ 36)) ((gM a).bind fun x => (gM b).bind fun y => bL (dx x.2 y.1) (bq (dJ x.1 y.2))) <|
 cond (decide (op ≤ 38)) ((cu a).bind fun x => (gM b).bind fun y => bL (dx x y.1) b) <|
 cond (decide (op ≤ 40)) ((gM a).bind fun x => (cu b).bind fun y => bL (dx y x.2) a) <|
 cond (decide (op ≤ 45)) ((cu a).bind fun x => (cu b).map fun y => bq (bq (dJ x y))) <|
 cond (decide (op ≤ 46)) ((cu a).map fun x => bq (bq x)) <|
 cond (decide (op ≤ 47)) ((cu a).map fun _ => j6) <|
 cond (decide (op ≤ 49)) ((cu a).bind fun x => bL (x.kind == 1) j6) <|
 cond (decide (op ≤ 50)) ((gM a).map fun x => bq x.1) <|
 cond (decide (op ≤ 51)) ((gM a).map fun x => bq x.2) <|
 cond (decide (op ≤ 52)) ((gM a).map fun x => bq (dJ x.2 x.1)) <|
 cond (decide (op ≤ 53)) ((gM a).bind fun x => (cu b).bind fun y => bL (dx y x.1) (bq x.2)) <|
 cond (decide (op ≤ 54)) ((gM a).bind fun x => bL (dx b x.1) x.2) <|
 cond (decide (op ≤ 55)) (bL ((cu a).isSome && b.kind == 2) a) <|
 (cu a).bind fun x => bL (b.kind != 2) (bq (dJ x b))
def WM (r : Ty × Bool) (o : Option Ty) : Prop := match o with | some t => r = (t, true) | none => r.2 = false
def Row (f : Nat → Option (Ty × Bool)) (o : Option Ty) : Prop := ∃ r, Ev f r ∧ WM r o
theorem Row.of {f : Nat → Option (Ty × Bool)} {o : Option Ty} (t : Ty) (b : Bool) (h : Ev f (t, b)) (he : o = bL b t) : Row f o := by
 subst he
 cases b
 ·exact ⟨_, h, rfl⟩
 ·exact ⟨_, h, rfl⟩
theorem Row.no {f : Nat → Option (Ty × Bool)} {o : Option Ty} (t : Ty) (h : Ev f (t, false)) (he : o = none) : Row f o := .of t false h he
theorem Row.yes {f : Nat → Option (Ty × Bool)} {o : Option Ty} (t : Ty) (h : Ev f (t, true)) (he : o = some t) : Row f o := .of t true h he
end Abs
end Go.Proofs.YtiiaccpcoclklaaGreat
namespace Go.Proofs.YtiiaccpcoclklaaGreat
namespace Abs
open Go
theorem l5 {α : Type} (a : α) (l : List α) : idx (a :: l) 0 = some a := rfl
theorem uP {α : Type} (a b : α) (l : List α) : idx (a :: b :: l) 1 = some b := rfl
theorem yt (t : Ty) : Ty.mk t.kind t.name t.kids = t := by cases t; rfl
theorem Kc (a b : Ty) : dx a b = true ↔ a = b := ⟨zV a b, fun h => h ▸ vC a⟩
theorem P9 (a b : Ty) : dx a b = dx b a := by
 rw [Bool.eq_iff_iff, Kc, Kc]
 exact ⟨Eq.symm, Eq.symm⟩
theorem WZ {t : Ty} (h : Top t) : (t.kind == 2) = dx t dn := by
 rcases h with rfl | h
 ·rfl
 ·cases h <;> rfl
theorem WW {t : Ty} (h : Top t) : (t.kind == 1) = dx t j6 := by
 rcases h with rfl | h
 ·rfl
 ·cases h <;> rfl
theorem Xd {t : Ty} (h : Top t) : (t.kind == 5) = (cu t).isSome := by
 rcases h with rfl | h
 ·rfl
 ·cases h <;> rfl
theorem jg (l : List Ty) (k : Int) (nm : Str) (ks : List Ty) (q : Int) : Row (fun n => aV n l k nm ks q) (bL (qV q l) (.mk k nm ks)) := by
 unfold aV jE kL
 refine Row.of (.mk k nm ks) (qV q l) ?_ rfl
 refine Ev.bind (a := l.any fun x => x.kind != q) (Ev.bind (uU l (fun n k i => gX n l q k i) (fun _ x => some (x.kind != q)) (fun x => x.kind != q) (fun n k i => rfl) (fun x _ => Ev.ret _)) ?_) ?_
 ·rw [rX _ _ _ (Int.le_refl _)]
  exact Ev.ret _
 ·have : (!(l.any fun x => x.kind != q)) = qV q l := by
   unfold qV
   rw [show (fun x : Ty => x.kind != q) = fun x => !(x.kind == q) from rfl, pV, Bool.not_not]
  rw [this]
  exact Ev.ret _
theorem Lb (a : Ty) (l : List Ty) : Ev (fun n => iR n (a :: l)) (a.kind != 2 && (a :: l).all fun x => dx x a) := by
 unfold iR jD kM
 simp only [l5, Option.bind_some]
 refine Ev.bind (a := a.kind != 2 && (a :: l).all fun x => dx x a) ?_ (Ev.ret _)
 cases a.kind != 2 with
 | false => exact Ev.ret _
 | true =>
  simp only [cond_true, Bool.true_and]
  refine Ev.bind (a := (a :: l).any fun x => !(dx x a)) (Ev.bind (uU (a :: l) (fun n k i => gV n (a :: l) (a :: l) k i) (fun n x => oJ n x (a :: l)) (fun x => !(dx x a)) (fun n k i => rfl) (fun x _ => ?_)) ?_) ?_
  ·unfold oJ
   simp only [l5, Option.bind_some]
   exact Ev.bind (rT x a) (Ev.ret _)
  ·rw [rX _ _ _ (Int.le_refl _)]
   exact Ev.ret _
  ·rw [pV, Bool.not_not]
   exact Ev.ret _
theorem yS (a b : Ty) : Ev (fun n => iR n [a, b]) (a.kind != 2 && dx a b) := by
 have := Lb a [b]
 simp only [List.all_cons, List.all_nil, Bool.and_true, vC, Bool.true_and] at this
 rwa [P9 b a] at this
section
variable {a b : Ty} (ha : Top a) (hb : Top b)
theorem Jz (hs : (cu a).isSome = true) : Row (fun n => ko n [a, b]) (bL ((cu a).isSome && b.kind == 2) dn) := by
 rw [hs]
 exact Row.of dn (b.kind == 2) (Ev.ret _) rfl
theorem PV (hs : (cu a).isSome = true) : Row (fun n => nU n [a, b]) (bL ((cu a).isSome && b.kind == 2) a) := by
 rw [hs]
 exact Row.of a (b.kind == 2) (Ev.ret _) rfl
theorem J7 : Row (fun n => lY n [a, b]) (bL (a.kind != 2 && dx a b) dn) :=
 Row.of dn _ (Ev.bind (yS a b) (Ev.ret _)) rfl
include hb in
theorem GY : Row (fun n => kI n [a, b]) ((cu b).bind fun e => bL (dx a e) dn) := by
 unfold kI
 simp only [l5, uP, Option.bind_some, fB _ hb]
 cases cu b with
 | none => exact .no dn (Ev.ret _) rfl
 | some e => exact .of dn (dx a e) (Ev.bind (Ev.bind (rT a e) (Ev.ret _)) (Ev.ret _)) rfl
include ha in
theorem Kj : (a.kind == 5 && (a.kind != 2 && dx a b)) = ((cu a).isSome && dx a b) := by
 rw [Xd ha]
 cases hs : cu a with
 | none => rfl
 | some e => obtain ⟨_, rfl⟩ := DR ha hs; rfl
include ha in
theorem PE : Row (fun n => lQ n [a, b]) (bL ((cu a).isSome && dx a b) dn) := by
 rw [← Kj ha]
 unfold lQ
 simp only [l5, Option.bind_some]
 refine .of dn _ (Ev.bind (a := a.kind == 5 && (a.kind != 2 && dx a b)) ?_ (Ev.ret _)) rfl
 cases a.kind == 5 with
 | false => exact Ev.ret _
 | true => exact Ev.bind (yS a b) (Ev.ret _)
include ha in
theorem Dj : Row (fun n => fZ n [a, b]) (bL ((cu a).isSome && dx a b) a) := by
 rw [← Kj ha]
 unfold fZ
 simp only [l5, Option.bind_some]
 refine .of a _ (Ev.bind (a := (a.kind == 5 && (a.kind != 2 && dx a b), a.kind, a.name, a.kids)) ?_ (by simp only [yt]; exact Ev.ret _)) rfl
 cases a.kind == 5 with
 | false => exact Ev.ret _
 | true => exact Ev.bind (yS a b) (Ev.ret _)
theorem Sj : Row (fun n => nI n [a, b]) (bL (a.kind != 2 && b.kind != 2) (dJ a b)) := by
 unfold nI
 simp only [l5, uP, Option.bind_some]
 cases a.kind != 2 with
 | false => exact .no (dJ a b) (Ev.ret _) rfl
 | true => exact .of (dJ a b) (b.kind != 2) (Ev.ret _) rfl
theorem Uz (l : List Ty) : Row (fun n => nG n (a :: l)) (bL (a.kind != 2 && (a :: l).all fun x => dx x a) (bq a)) := by
 unfold nG
 simp only [l5, Option.bind_some]
 exact .of (bq a) _ (Ev.bind (Lb a l) (Ev.ret _)) rfl
include ha hb in
theorem RH : Row (fun n => mU n [a, b]) ((cu a).bind fun x => (cu b).map fun y => bq (dJ x y)) := by
 unfold mU
 simp only [l5, uP, Option.bind_some, fB _ ha, fB _ hb]
 cases cu a with
 | none => exact .no bM (Ev.ret _) rfl
 | some x =>
  cases cu b with
  | none => exact .no bM (Ev.ret _) rfl
  | some y => exact .yes (bq (dJ x y)) (Ev.ret _) rfl
include ha hb in
theorem xD : Row (fun n => dM n [a, b]) ((cu a).bind fun x => (cu b).map fun y => bq (bq (dJ x y))) := by
 unfold dM
 simp only [l5, uP, Option.bind_some, fB _ ha, fB _ hb]
 cases cu a with
 | none => exact .no bM (Ev.ret _) rfl
 | some x =>
  cases cu b with
  | none => exact .no bM (Ev.ret _) rfl
  | some y => exact .yes (bq (bq (dJ x y))) (Ev.ret _) rfl
include ha in
theorem Sc : Row (fun n => iE n [a, b]) (bL ((gM a).isSome && dx a b) a) := by
 unfold iE
 simp only [l5, Option.bind_some, om _ ha]
 cases hr : gM a with
 | none => exact .no bM (Ev.ret _) rfl
 | some x =>
  obtain ⟨x, y⟩ := x
  obtain ⟨_, _, rfl⟩ := JA ha hr
  refine .of _ (dx (bq (dJ x y)) b) (Ev.bind (a := (bq (dJ x y), dx (bq (dJ x y)) b)) ?_ (Ev.ret _)) rfl
  show Ev (fun n => (iR n [bq (dJ x y), b]).bind fun x2 => some (bq (dJ x y), x2)) _
  exact Ev.bind (yS (bq (dJ x y)) b) (Ev.ret _)
include ha hb in
theorem Rf : Row (fun n => iG n [a, b]) ((gM a).bind fun x => (gM b).bind fun y => bL (dx x.2 y.1) (bq (dJ x.1 y.2))) := by
 unfold iG rJ
 simp only [l5, uP, Option.bind_some, om _ ha, om _ hb]
 cases gM a with
 | none => exact .no bM (Ev.ret _) rfl
 | some x =>
  cases gM b with
  | none => exact .no (bq (dJ x.1 bM)) (Ev.ret _) rfl
  | some y => exact .of (bq (dJ x.1 y.2)) (dx x.2 y.1) (Ev.bind (Ev.bind (Ev.bind (rT x.2 y.1) (Ev.ret _)) (Ev.ret _)) (Ev.ret _)) rfl
include ha hb in
theorem Ka : Row (fun n => kJ n [a, b]) ((cu a).bind fun x => (gM b).bind fun y => bL (dx x y.1) b) := by
 unfold kJ
 simp only [l5, uP, Option.bind_some, fB _ ha, om _ hb]
 cases cu a with
 | none => exact .no b (by simp only [MP, cond_false, Option.bind_some, yt]; exact Ev.ret _) rfl
 | some x =>
  cases gM b with
  | none => exact .no b (by simp only [MP, Qd, cond_true, cond_false, Option.bind_some, yt]; exact Ev.ret _) rfl
  | some y =>
   refine .of b (dx x y.1) ?_ rfl
   simp only [MP, Qd, cond_true]
   exact Ev.bind (a := (dx x y.1, b.kind, b.name, b.kids)) (Ev.bind (rT x y.1) (Ev.ret _)) (by simp only [yt]; exact Ev.ret _)
include ha hb in
theorem Kt : Row (fun n => eG n [a, b]) ((gM a).bind fun x => (cu b).bind fun y => bL (dx y x.2) a) := by
 unfold eG rO
 simp only [l5, uP, Option.bind_some, fB _ hb, om _ ha]
 cases gM a with
 | none => exact .no bM (Ev.ret _) rfl
 | some x =>
  cases cu b with
  | none => exact .no a (by simp only [MP, Qd, cond_false, Option.bind_some, yt, Bool.not_true]; exact Ev.ret _) rfl
  | some y =>
   refine .of a (dx y x.2) ?_ rfl
   simp only [MP, Qd, cond_true, Bool.not_true, cond_false]
   exact Ev.bind (a := (a, dx y x.2)) (Ev.bind (a := (dx y x.2, a.kind, a.name, a.kids)) (Ev.bind (rT y x.2) (Ev.ret _)) (by simp only [yt]; exact Ev.ret _)) (Ev.ret _)
include ha in
theorem Tx : Row (fun n => kS n [a]) ((cu a).map fun x => bq (bq x)) := by
 unfold kS
 simp only [l5, Option.bind_some, fB _ ha]
 cases cu a with
 | none => exact .no bM (Ev.ret _) rfl
 | some x => exact .yes (bq (bq x)) (Ev.ret _) rfl
include ha in
theorem RN : Row (fun n => kR n [a]) ((cu a).map fun _ => j6) := by
 unfold kR
 simp only [l5, Option.bind_some, fB _ ha]
 cases cu a with
 | none => exact .no bM (Ev.ret _) rfl
 | some x => exact .yes j6 (Ev.ret _) rfl
include ha in
theorem N9 : Row (fun n => iQ n [a]) ((cu a).bind fun x => bL (x.kind == 1) j6) := by
 unfold iQ
 simp only [l5, Option.bind_some, fB _ ha]
 cases cu a with
 | none => exact .no bM (Ev.ret _) rfl
 | some x => exact .of j6 (x.kind == 1) (Ev.ret _) rfl
include ha in
theorem TA : Row (fun n => iF n [a]) ((gM a).map fun x => bq x.1) := by
 unfold iF
 simp only [l5, Option.bind_some, om _ ha]
 cases gM a with
 | none => exact .no bM (Ev.ret _) rfl
 | some x => exact .yes (bq x.1) (Ev.ret _) rfl
include ha in
theorem Um : Row (fun n => iI n [a]) ((gM a).map fun x => bq x.2) := by
 unfold iI
 simp only [l5, Option.bind_some, om _ ha]
 cases gM a with
 | none => exact .no bM (Ev.ret _) rfl
 | some x => exact .yes (bq x.2) (Ev.ret _) rfl
include ha in
theorem TQ : Row (fun n => iL n [a]) ((gM a).map fun x => bq (dJ x.2 x.1)) := by
 unfold iL
 simp only [l5, Option.bind_some, om _ ha]
 cases gM a with
 | none => exact .no bM (Ev.ret _) rfl
 | some x => exact .yes (bq (dJ x.2 x.1)) (Ev.ret _) rfl
include ha hb in
theorem Qw : Row (fun n => iJ n [a, b]) ((gM a).bind fun x => (cu b).bind fun y => bL (dx y x.1) (bq x.2)) := by
 unfold iJ qJ
 simp only [l5, uP, Option.bind_some, fB _ hb, om _ ha]
 cases gM a with
 | none => exact .no bM (Ev.ret _) rfl
 | some x =>
  cases cu b with
  | none => exact .no (bq x.2) (Ev.ret _) rfl
  | some y => exact .of (bq x.2) (dx y x.1) (Ev.bind (Ev.bind (Ev.bind (rT y x.1) (Ev.ret _)) (Ev.ret _)) (Ev.ret _)) rfl
include ha in
theorem QB : Row (fun n => iK n [a, b]) ((gM a).bind fun x => bL (dx b x.1) x.2) := by
 unfold iK qD
 simp only [l5, uP, Option.bind_some, om _ ha]
 cases gM a with
 | none => exact .no bM (Ev.ret _) rfl
 | some x => exact .of x.2 (dx b x.1) (Ev.bind (Ev.bind (rT b x.1) (Ev.ret _)) (Ev.ret _)) rfl
include ha in
theorem Uy : Row (fun n => mQ n [a, b]) ((cu a).bind fun x => bL (b.kind != 2) (bq (dJ x b))) := by
 unfold mQ
 simp only [l5, uP, Option.bind_some, fB _ ha]
 cases cu a with
 | none => exact .no (bq (dJ bM b)) (Ev.ret _) rfl
 | some x => exact .of (bq (dJ x b)) (b.kind != 2) (Ev.ret _) rfl
end
def WB (f : Nat → Option (Bool × Int × Str × (List Ty))) (o : Option Ty) : Prop := ∃ r, Ev f r ∧ (match o with | some t => r = (true, t.kind, t.name, t.kids) | none => r.1 = false)
theorem Row.c {f : Nat → Option (Ty × Bool)} {o : Option Ty} (h : Row f o) : WB (fun n => (f n).bind fun x => some (x.2, x.1.kind, x.1.name, x.1.kids)) o := by
 obtain ⟨r, h1, h2⟩ := h
 refine ⟨_, Ev.bind h1 (Ev.ret _), ?_⟩
 cases o with
 | none => exact h2
 | some t => have h2 : r = (t, true) := h2; subst h2; rfl
def Qg (n : Nat) (op : Int) (l : List Ty) : Option (Bool × Int × Str × (List Ty)) := (cond (op == 0) none (cond (op == 1) (some (((Ty.mk 2 ([] : Str) ([])), true).2, (((Ty.mk 2 ([] : Str) ([])), true).1).kind, (((Ty.mk 2 ([] : Str) ([])), true).1).name, (((Ty.mk 2 ([] : Str) ([])), true).1).kids)) (cond (op == 2) (some (((Ty.mk 2 ([] : Str) ([])), true).2, (((Ty.mk 2 ([] : Str) ([])), true).1).kind, (((Ty.mk 2 ([] : Str) ([])), true).1).name, (((Ty.mk 2 ([] : Str) ([])), true).1).kids)) (cond (op == 3) ((aV n l 2 ([] : Str) ([]) 2).bind fun (x6 : Ty × Bool) => some (x6.2, x6.1.kind, x6.1.name, x6.1.kids)) (cond (op == 4) ((aV n l 2 ([] : Str) ([]) 2).bind fun (x7 : Ty × Bool) => some (x7.2, x7.1.kind, x7.1.name, x7.1.kids)) (cond (op == 5) ((aV n l 2 ([] : Str) ([]) 2).bind fun (x8 : Ty × Bool) => some (x8.2, x8.1.kind, x8.1.name, x8.1.kids)) (cond (op == 6) ((aV n l 2 ([] : Str) ([]) 2).bind fun (x9 : Ty × Bool) => some (x9.2, x9.1.kind, x9.1.name, x9.1.kids)) (cond (op == 7) ((aV n l 2 ([] : Str) ([]) 2).bind fun (x10 : Ty × Bool) => some (x10.2, x10.1.kind, x10.1.name, x10.1.kids)) (cond (op == 8) ((ko n l).bind fun (x11 : Ty × Bool) => some (x11.2, x11.1.kind, x11.1.name, x11.1.kids)) (cond (op == 9) ((ko n l).bind fun (x12 : Ty × Bool) => some (x12.2, x12.1.kind, x12.1.name, x12.1.kids)) (cond (op == 10) ((lY n l).bind fun (x13 : Ty × Bool) => some (x13.2, x13.1.kind, x13.1.name, x13.1.kids)) (cond (op == 11) ((lY n l).bind fun (x14 : Ty × Bool) => some (x14.2, x14.1.kind, x14.1.name, x14.1.kids)) (cond (op == 12) ((aV n l 2 ([] : Str) ([]) 1).bind fun (x15 : Ty × Bool) => some (x15.2, x15.1.kind, x15.1.name, x15.1.kids)) (cond (op == 13) ((aV n l 2 ([] : Str) ([]) 1).bind fun (x16 : Ty × Bool) => some (x16.2, x16.1.kind, x16.1.name, x16.1.kids)) (cond (op == 14) ((aV n l 2 ([] : Str) ([]) 1).bind fun (x17 : Ty × Bool) => some (x17.2, x17.1.kind, x17.1.name, x17.1.kids)) (cond (op == 15) ((aV n l 2 ([] : Str) ([]) 1).bind fun (x18 : Ty × Bool) => some (x18.2, x18.1.kind, x18.1.name, x18.1.kids)) (cond (op == 16) ((kI n l).bind fun (x19 : Ty × Bool) => some (x19.2, x19.1.kind, x19.1.name, x19.1.kids)) (cond (op == 17) ((kI n l).bind fun (x20 : Ty × Bool) => some (x20.2, x20.1.kind, x20.1.name, x20.1.kids)) (cond (op == 18) ((lQ n l).bind fun (x21 : Ty × Bool) => some (x21.2, x21.1.kind, x21.1.name, x21.1.kids)) (cond (op == 19) (some (((Ty.mk 1 ([] : Str) ([])), true).2, (((Ty.mk 1 ([] : Str) ([])), true).1).kind, (((Ty.mk 1 ([] : Str) ([])), true).1).name, (((Ty.mk 1 ([] : Str) ([])), true).1).kids)) (cond (op == 20) none (cond (op == 21) ((aV n l 1 ([] : Str) ([]) 1).bind fun (x22 : Ty × Bool) => some (x22.2, x22.1.kind, x22.1.name, x22.1.kids)) (cond (op == 22) ((aV n l 1 ([] : Str) ([]) 1).bind fun (x23 : Ty × Bool) => some (x23.2, x23.1.kind, x23.1.name, x23.1.kids)) (cond (op == 23) ((aV n l 1 ([] : Str) ([]) 1).bind fun (x24 : Ty × Bool) => some (x24.2, x24.1.kind, x24.1.name, x24.1.kids)) (cond (op == 24) ((aV n l 1 ([] : Str) ([]) 1).bind fun (x25 : Ty × Bool) => some (x25.2, x25.1.kind, x25.1.name, x25.1.kids)) (cond (op == 25) ((aV n l 1 ([] : Str) ([]) 1).bind fun (x26 : Ty × Bool) => some (x26.2, x26.1.kind, x26.1.name, x26.1.kids)) (cond (op == 26) ((aV n l 1 ([] : Str) ([]) 1).bind fun (x27 : Ty × Bool) => some (x27.2, x27.1.kind, x27.1.name, x27.1.kids)) (cond (op == 27) ((nI n l).bind fun (x28 : Ty × Bool) => some (x28.2, x28.1.kind, x28.1.name, x28.1.kids)) (cond (op == 28) ((nG n l).bind fun (x29 : Ty × Bool) => some (x29.2, x29.1.kind, x29.1.name, x29.1.kids)) (cond (op == 29) none (cond (op == 30) ((aV n l 5 ([] : Str) ([(Ty.mk 1 ([] : Str) ([]))]) 1).bind fun (x30 : Ty × Bool) => some (x30.2, x30.1.kind, x30.1.name, x30.1.kids)) (cond (op == 31) ((fZ n l).bind fun (x31 : Ty × Bool) => some (x31.2, x31.1.kind, x31.1.name, x31.1.kids)) (cond (op == 32) ((fZ n l).bind fun (x32 : Ty × Bool) => some (x32.2, x32.1.kind, x32.1.name, x32.1.kids)) (cond (op == 33) ((fZ n l).bind fun (x33 : Ty × Bool) => some (x33.2, x33.1.kind, x33.1.name, x33.1.kids)) (cond (op == 34) ((mU n l).bind fun (x34 : Ty × Bool) => some (x34.2, x34.1.kind, x34.1.name, x34.1.kids)) (cond (op == 35) ((iE n l).bind fun (x35 : Ty × Bool) => some (x35.2, x35.1.kind, x35.1.name, x35.1.kids)) (cond (op == 36) ((iG n l).bind fun (x36 : Ty × Bool) => some (x36.2, x36.1.kind, x36.1.name, x36.1.kids)) (cond (op == 37) ((kJ n l).bind fun (x37 : Ty × Bool) => some (x37.2, x37.1.kind, x37.1.name, x37.1.kids)) (cond (op == 38) ((kJ n l).bind fun (x38 : Ty × Bool) => some (x38.2, x38.1.kind, x38.1.name, x38.1.kids)) (cond (op == 39) ((eG n l).bind fun (x39 : Ty × Bool) => some (x39.2, x39.1.kind, x39.1.name, x39.1.kids)) (cond (op == 40) ((eG n l).bind fun (x40 : Ty × Bool) => some (x40.2, x40.1.kind, x40.1.name, x40.1.kids)) (cond (op == 41) ((dM n l).bind fun (x41 : Ty × Bool) => some (x41.2, x41.1.kind, x41.1.name, x41.1.kids)) (cond (op == 42) ((dM n l).bind fun (x42 : Ty × Bool) => some (x42.2, x42.1.kind, x42.1.name, x42.1.kids)) (cond (op == 43) ((dM n l).bind fun (x43 : Ty × Bool) => some (x43.2, x43.1.kind, x43.1.name, x43.1.kids)) (cond (op == 44) ((dM n l).bind fun (x44 : Ty × Bool) => some (x44.2, x44.1.kind, x44.1.name, x44.1.kids)) (cond (op == 45) ((dM n l).bind fun (x45 : Ty × Bool) => some (x45.2, x45.1.kind, x45.1.name, x45.1.kids)) (cond (op == 46) ((kS n l).bind fun (x46 : Ty × Bool) => some (x46.2, x46.1.kind, x46.1.name, x46.1.kids)) (cond (op == 47) ((kR n l).bind fun (x47 : Ty × Bool) => some (x47.2, x47.1.kind, x47.1.name, x47.1.kids)) (cond (op == 48) ((iQ n l).bind fun (x48 : Ty × Bool) => some (x48.2, x48.1.kind, x48.1.name, x48.1.kids)) (cond (op == 49) ((iQ n l).bind fun (x49 : Ty × Bool) => some (x49.2, x49.1.kind, x49.1.name, x49.1.kids)) (cond (op == 50) ((iF n l).bind fun (x50 : Ty × Bool) => some (x50.2, x50.1.kind, x50.1.name, x50.1.kids)) (cond (op == 51) ((iI n l).bind fun (x51 : Ty × Bool) => some (x51.2, x51.1.kind, x51.1.name, x51.1.kids)) (cond (op == 52) ((iL n l).bind fun (x52 : Ty × Bool) => some (x52.2, x52.1.kind, x52.1.name, x52.1.kids)) (cond (op == 53) ((iJ n l).bind fun (x53 : Ty × Bool) => some (x53.2, x53.1.kind, x53.1.name, x53.1.kids)) (cond (op == 54) ((iK n l).bind fun (x54 : Ty × Bool) => some (x54.2, x54.1.kind, x54.1.name, x54.1.kids)) (cond (op == 55) ((nU n l).bind fun (x55 : Ty × Bool) => some (x55.2, x55.1.kind, x55.1.name, x55.1.kids)) (cond (op == 56) ((mQ n l).bind fun (x56 : Ty × Bool) => some (x56.2, x56.1.kind, x56.1.name, x56.1.kids)) none)))))))))))))))))))))))))))))))))))))))))))))))))))))))))
theorem U4 {op : Int} (h1 : 1 ≤ op) (h2 : op ≤ 56) : op = 1 ∨ op = 2 ∨ op = 3 ∨ op = 4 ∨ op = 5 ∨ op = 6 ∨ op = 7 ∨ op = 8 ∨ op = 9 ∨ op = 10 ∨ op = 11 ∨ op = 12 ∨ op = 13 ∨ op = 14 ∨ op = 15 ∨ op = 16 ∨ op = 17 ∨ op = 18 ∨ op = 19 ∨ op = 20 ∨ op = 21 ∨ op = 22 ∨ op = 23 ∨ op = 24 ∨ op = 25 ∨ op = 26 ∨ op = 27 ∨ op = 28 ∨ op = 29 ∨ op = 30 ∨ op = 31 ∨ op = 32 ∨ op = 33 ∨ op = 34 ∨ op = 35 ∨ op = 36 ∨ op = 37 ∨ op = 38 ∨ op = 39 ∨ op = 40 ∨ op = 41 ∨ op = 42 ∨ op = 43 ∨ op = 44 ∨ op = 45 ∨ op = 46 ∨ op = 47 ∨ op = 48 ∨ op = 49 ∨ op = 50 ∨ op = 51 ∨ op = 52 ∨ op = 53 ∨ op = 54 ∨ op = 55 ∨ op = 56 := by omega
theorem tC {α : Type} (l : List α) (h : (l.length : Int) = 1) : ∃ a, l = [a] := by
 match l, h with
 | [a], _ => exact ⟨a, rfl⟩
theorem dS {α : Type} (l : List α) (h : (l.length : Int) = 2) : ∃ a b, l = [a, b] := by
 match l, h with
 | [a, b], _ => exact ⟨a, b, rfl⟩
theorem TB {α : Type} (l : List α) (h : l ≠ []) : ∃ a m, l = a :: m := by
 match l, h with
 | a :: m, _ => exact ⟨a, m, rfl⟩
structure LenOk (op : Int) (l : List Ty) : Prop where
 one : bY op = 1 → (l.length : Int) = 1
 two : bY op = 2 → (l.length : Int) = 2
 some : bY op = -1 → l ≠ []
set_option maxRecDepth 100000 in
theorem QV {op : Int} (h1 : 1 ≤ op) (h2 : op ≤ 56) (h20 : op ≠ 20) (h29 : op ≠ 29) {l : List Ty} (hl : ∀ t ∈ l, Top t) (hn : LenOk op l) (hb : bN op = true → (cu (l.headD bM)).isSome = true) : WB (fun n => Qg n op l) (KH op l) := by
 rcases U4 h1 h2 with rfl | rfl | rfl | rfl | rfl | rfl | rfl | rfl | rfl | rfl | rfl | rfl | rfl | rfl | rfl | rfl | rfl | rfl | rfl | rfl | rfl | rfl | rfl | rfl | rfl | rfl | rfl | rfl | rfl | rfl | rfl | rfl | rfl | rfl | rfl | rfl | rfl | rfl | rfl | rfl | rfl | rfl | rfl | rfl | rfl | rfl | rfl | rfl | rfl | rfl | rfl | rfl | rfl | rfl | rfl | rfl
 ·exact ⟨_, Ev.ret _, rfl⟩
 ·exact ⟨_, Ev.ret _, rfl⟩
 ·exact Row.c (jg l 2 [] [] 2)
 ·exact Row.c (jg l 2 [] [] 2)
 ·exact Row.c (jg l 2 [] [] 2)
 ·exact Row.c (jg l 2 [] [] 2)
 ·exact Row.c (jg l 2 [] [] 2)
 ·obtain ⟨a, b, rfl⟩ := dS l (hn.two rfl); exact Row.c (Jz (hb rfl))
 ·obtain ⟨a, b, rfl⟩ := dS l (hn.two rfl); exact Row.c (Jz (hb rfl))
 ·obtain ⟨a, b, rfl⟩ := dS l (hn.two rfl); exact Row.c (J7)
 ·obtain ⟨a, b, rfl⟩ := dS l (hn.two rfl); exact Row.c (J7)
 ·exact Row.c (jg l 2 [] [] 1)
 ·exact Row.c (jg l 2 [] [] 1)
 ·exact Row.c (jg l 2 [] [] 1)
 ·exact Row.c (jg l 2 [] [] 1)
 ·obtain ⟨a, b, rfl⟩ := dS l (hn.two rfl); exact Row.c (GY (hl b (by simp)))
 ·obtain ⟨a, b, rfl⟩ := dS l (hn.two rfl); exact Row.c (GY (hl b (by simp)))
 ·obtain ⟨a, b, rfl⟩ := dS l (hn.two rfl); exact Row.c (PE (hl a (by simp)))
 ·exact ⟨_, Ev.ret _, rfl⟩
 ·exact absurd rfl h20
 ·exact Row.c (jg l 1 [] [] 1)
 ·exact Row.c (jg l 1 [] [] 1)
 ·exact Row.c (jg l 1 [] [] 1)
 ·exact Row.c (jg l 1 [] [] 1)
 ·exact Row.c (jg l 1 [] [] 1)
 ·exact Row.c (jg l 1 [] [] 1)
 ·obtain ⟨a, b, rfl⟩ := dS l (hn.two rfl); exact Row.c (Sj)
 ·obtain ⟨a, l, rfl⟩ := TB l (hn.some rfl); exact Row.c (Uz l)
 ·exact absurd rfl h29
 ·exact Row.c (jg l 5 [] [j6] 1)
 ·obtain ⟨a, b, rfl⟩ := dS l (hn.two rfl); exact Row.c (Dj (hl a (by simp)))
 ·obtain ⟨a, b, rfl⟩ := dS l (hn.two rfl); exact Row.c (Dj (hl a (by simp)))
 ·obtain ⟨a, b, rfl⟩ := dS l (hn.two rfl); exact Row.c (Dj (hl a (by simp)))
 ·obtain ⟨a, b, rfl⟩ := dS l (hn.two rfl); exact Row.c (RH (hl a (by simp)) (hl b (by simp)))
 ·obtain ⟨a, b, rfl⟩ := dS l (hn.two rfl); exact Row.c (Sc (hl a (by simp)))
 ·obtain ⟨a, b, rfl⟩ := dS l (hn.two rfl); exact Row.c (Rf (hl a (by simp)) (hl b (by simp)))
 ·obtain ⟨a, b, rfl⟩ := dS l (hn.two rfl); exact Row.c (Ka (hl a (by simp)) (hl b (by simp)))
 ·obtain ⟨a, b, rfl⟩ := dS l (hn.two rfl); exact Row.c (Ka (hl a (by simp)) (hl b (by simp)))
 ·obtain ⟨a, b, rfl⟩ := dS l (hn.two rfl); exact Row.c (Kt (hl a (by simp)) (hl b (by simp)))
 ·obtain ⟨a, b, rfl⟩ := dS l (hn.two rfl); exact Row.c (Kt (hl a (by simp)) (hl b (by simp)))
 ·obtain ⟨a, b, rfl⟩ := dS l (hn.two rfl); exact Row.c (xD (hl a (by simp)) (hl b (by simp)))
 ·obtain ⟨a, b, rfl⟩ := dS l (hn.two rfl); exact Row.c (xD (hl a (by simp)) (hl b (by simp)))
 ·obtain ⟨a, b, rfl⟩ := dS l (hn.two rfl); exact Row.c (xD (hl a (by simp)) (hl b (by simp)))
 ·obtain ⟨a, b, rfl⟩ := dS l (hn.two rfl); exact Row.c (xD (hl a (by simp)) (hl b (by simp)))
 ·obtain ⟨a, b, rfl⟩ := dS l (hn.two rfl); exact Row.c (xD (hl a (by simp)) (hl b (by simp)))
 ·obtain ⟨a, rfl⟩ := tC l (hn.one rfl); exact Row.c (Tx (hl a (by simp)))
 ·obtain ⟨a, rfl⟩ := tC l (hn.one rfl); exact Row.c (RN (hl a (by simp)))
 ·obtain ⟨a, rfl⟩ := tC l (hn.one rfl); exact Row.c (N9 (hl a (by simp)))
 ·obtain ⟨a, rfl⟩ := tC l (hn.one rfl); exact Row.c (N9 (hl a (by simp)))
 ·obtain ⟨a, rfl⟩ := tC l (hn.one rfl); exact Row.c (TA (hl a (by simp)))
 ·obtain ⟨a, rfl⟩ := tC l (hn.one rfl); exact Row.c (Um (hl a (by simp)))
 ·obtain ⟨a, rfl⟩ := tC l (hn.one rfl); exact Row.c (TQ (hl a (by simp)))
 ·obtain ⟨a, b, rfl⟩ := dS l (hn.two rfl); exact Row.c (Qw (hl a (by simp)) (hl b (by simp)))
 ·obtain ⟨a, b, rfl⟩ := dS l (hn.two rfl); exact Row.c (QB (hl a (by simp)))
 ·obtain ⟨a, b, rfl⟩ := dS l (hn.two rfl); exact Row.c (PV (hb rfl))
 ·obtain ⟨a, b, rfl⟩ := dS l (hn.two rfl); exact Row.c (Uy (hl a (by simp)))
end Abs
end Go.Proofs.YtiiaccpcoclklaaGreat
namespace Go.Proofs.YtiiaccpcoclklaaGreat
namespace Abs
open Go
end Abs
end Go.Proofs.YtiiaccpcoclklaaGreat
namespace Go.Proofs.YtiiaccpcoclklaaGreat
namespace Abs
open Go
theorem Oj {α σ τ ρ : Type} (l : List α) (L : Nat → Nat → Int → σ → Option (LR τ ρ)) (step : Nat → Int → α → σ → Option (LR σ ρ)) (st : Int → α → σ → LR σ ρ) (fin : σ → τ) (I : Int → List α → σ → Prop)
  (h0 : ∀ n k s, L n (k + 1) (l.length : Int) s = some (.nx (fin s)))
  (h1 : ∀ n k i x s, idx l i = some x → decide (i < (l.length : Int)) = true → L n (k + 1) i s = (step n i x s).bind (LR.el (fun s' => L n k (i + 1) s') (fun r => some (.rt r))))
  (hI : ∀ i x suf s, x ∈ l → I i (x :: suf) s → idx l i = some x → Ev (fun n => step n i x s) (st i x s) ∧ ∀ s', st i x s = .nx s' → I (i + 1) suf s') {s0 : σ} (hs0 : I 0 l s0) : Ev (fun n => L n n 0 s0) (kU st fin 0 l s0) := by
 have key : ∀ (suf pre : List α) (s : σ), l = pre ++ suf → I (pre.length : Int) suf s → ∃ N, ∀ n, N ≤ n → ∀ k, suf.length + 1 ≤ k → L n k (pre.length : Int) s = some (kU st fin (pre.length : Int) suf s) := by
  intro suf
  induction suf with
  | nil =>
   intro pre s hl _
   refine ⟨0, fun n _ k hk => ?_⟩
   cases k with
   | zero => simp at hk
   | succ k =>
    have e : pre.length = l.length := by rw [hl]; simp
    rw [e, h0]
    rfl
  | cons x suf ih =>
   intro pre s hl hIs
   have hx : idx l (pre.length : Int) = some x := by rw [hl]; exact zW pre x suf
   obtain ⟨⟨N1, k1⟩, k2⟩ := hI _ x suf s (by rw [hl]; simp) hIs hx
   replace k1 : ∀ n, N1 ≤ n → step n (pre.length : Int) x s = some (st (pre.length : Int) x s) := k1
   have hi : decide ((pre.length : Int) < (l.length : Int)) = true := decide_eq_true (by rw [hl]; simp; omega)
   cases hs : st (pre.length : Int) x s with
   | rt r =>
    refine ⟨N1, fun n hn k hk => ?_⟩
    cases k with
    | zero => simp at hk
    | succ k =>
     rw [h1 n k _ x s hx hi, k1 n hn, hs]
     simp [kU, hs]
   | nx s' =>
    have h3 := k2 s' hs
    have e : ((pre ++ [x]).length : Int) = (pre.length : Int) + 1 := by simp
    obtain ⟨N2, h4⟩ := ih (pre ++ [x]) s' (by rw [hl]; simp) (by rw [e]; exact h3)
    refine ⟨max N1 N2, fun n hn k hk => ?_⟩
    cases k with
    | zero => simp at hk
    | succ k =>
     rw [h1 n k _ x s hx hi, k1 n (by omega), hs]
     simp only [Option.bind_some, LR.el]
     have := h4 n (by omega) k (by simp at hk; omega)
     rw [e] at this
     rw [this]
     simp [kU, hs]
 obtain ⟨N, hN⟩ := key l [] s0 rfl hs0
 exact ⟨max N (l.length + 1), fun n hn => hN n (by omega) n (by omega)⟩
def Wf (d : Int) (t : Tm) : Prop := ∃ c, 0 ≤ c ∧ (mf t d c).1 = true
theorem M6 : ∀ (ts : List Tm) (d c : Int), 0 ≤ c → (lT ts d c).1 = true → c + ts.length ≤ (lT ts d c).2 ∧ ∀ t ∈ ts, Wf d t
 | [], _, c, _, _ => by simp [lT]
 | t :: ts, d, c, h0, h => by
  simp only [lT] at h ⊢
  cases hb : (mf t d c).1 with
  | false => rw [hb] at h; cases h
  | true =>
   rw [hb] at h
   simp only [cond_true] at h ⊢
   have h1 := AB t d c hb
   obtain ⟨h2, h3⟩ := M6 ts d _ (by omega) h
   refine ⟨by simp only [List.length_cons]; omega, fun u hu => ?_⟩
   rcases List.mem_cons.1 hu with rfl | hu
   ·exact ⟨_, h0, hb⟩
   ·exact h3 u hu
theorem Wf.node {op : Int} {nm : Str} {m : Int} {ty : Ty} {ks : List Tm} {d : Int} (h : Wf d (.mk op nm m ty ks)) : mG (.mk op nm m ty ks) = true ∧ d ≤ 64 ∧ ks.length ≤ 2000 ∧ ∀ t ∈ ks, Wf (d + 1) t := by
 obtain ⟨c, h0, h⟩ := h
 simp only [mf] at h
 cases hb : ((decide (c + 1 ≤ 2000) && decide (d ≤ 64)) && mG (.mk op nm m ty ks)) with
 | false => rw [hb] at h; cases h
 | true =>
  rw [hb] at h
  simp only [cond_true] at h
  simp only [Bool.and_eq_true, decide_eq_true_eq] at hb
  obtain ⟨h1, h2⟩ := M6 _ _ _ (by omega) h
  have h3 := G5 ks _ _ h
  exact ⟨hb.2, hb.1.2, by have := h3.2 hb.1.1; omega, h2⟩
theorem oP {t : Tm} (h : jQ t = true) : Wf 1 t := ⟨0, by omega, h⟩
theorem OY {op : Int} (h : (bY op == -2) = false) : 1 ≤ op ∧ op ≤ 56 := by
 by_cases hr : 1 ≤ op ∧ op ≤ 56
 ·exact hr
 ·exfalso
  have e : bY op = -2 := by
   unfold bY
   have h1 : (op == 1 || (op == 2 || (op == 19 || (op == 20 || op == 29)))) = false := by
    simp only [Bool.or_eq_false_iff, beq_eq_false_iff_ne]
    omega
   have h2 : (op == 3 || (op == 21 || (decide (46 ≤ op) && decide (op ≤ 52)))) = false := by
    simp only [Bool.or_eq_false_iff, beq_eq_false_iff_ne, Bool.and_eq_false_iff, decide_eq_false_iff_not]
    omega
   have h3 : (op == 28) = false := by
    simp only [beq_eq_false_iff_ne]
    omega
   have h4 : (decide (4 ≤ op) && decide (op ≤ 56)) = false := by
    simp only [Bool.and_eq_false_iff, decide_eq_false_iff_not]
    omega
   rw [h1, h2, h3, h4]
   rfl
  rw [e] at h
  cases h
theorem sK {op : Int} {nm : Str} {m : Int} {ty : Ty} {ks : List Tm} (h : mG (.mk op nm m ty ks) = true) : (1 ≤ op ∧ op ≤ 56) ∧ (op = 20 → ks = []) ∧ (op = 29 → ks = [] ∧ bV ty = true ∧ (ty.kind == 2) = false) ∧ (∀ l : List Ty, l.length = ks.length → LenOk op l) ∧ (bN op = true → ∃ x y, ks = [x, y]) := by
 simp only [mG, Bool.and_eq_true, uZ, Tm.op, Tm.kids, Bool.not_eq_true'] at h
 obtain ⟨⟨h1, h2⟩, _, _, h5⟩ := h
 have hlen : ∀ q : Int, bY op = q → (q == -1) = false → (ks.length : Int) = q := fun q e hq => by
  rw [e, hq] at h2
  simpa using h2
 have hnil : bY op = 0 → ks = [] := fun e => by
  have := hlen 0 e rfl
  exact List.length_eq_zero_iff.1 (by omega)
 refine ⟨OY h1, fun e => hnil (by subst e; rfl), fun e => ⟨hnil (by subst e; rfl), ?_⟩, fun l hl => ⟨fun e => by rw [hl]; exact hlen 1 e rfl, fun e => by rw [hl]; exact hlen 2 e rfl, fun e => ?_⟩, fun hb => ?_⟩
 ·subst e
  have h5' : (bV ty && ty.kind != 2) = true := h5
  simp only [Bool.and_eq_true, bne_iff_ne, ne_eq] at h5'
  exact ⟨h5'.1, by simpa using h5'.2⟩
 ·rintro rfl
  rw [e] at h2
  have : ks = [] := List.length_eq_zero_iff.1 hl.symm
  subst this
  cases h2
 ·have : bY op = 2 := by
   simp only [bN, Bool.or_eq_true, beq_iff_eq] at hb
   rcases hb with rfl | rfl | rfl | rfl <;> rfl
  obtain ⟨x, y, e⟩ := dS ks (hlen 2 this rfl)
  exact ⟨x, y, e⟩
inductive TR where
 | ok (t : Ty)
 | er (e : Int) (p : List Int)
inductive KR where
 | ok (l : List Ty)
 | er (e : Int) (p : List Int)
def wN (env : Env) (sc : List Decl) (s : Str) : Option Ty := match sc.find? (fun d => d.name == s) with | some d => some d.ty | none => look env s
def sw (o : Option Ty) : TR := match o with | some t => cond (bV t) (.ok t) (.er 5 []) | none => .er 7 []
def knows (env : Env) (t : Ty) : Bool := (iM t).all (gZ env)
def nV (b : Bool) (nm : Str) (ty : Ty) (sc : List Decl) : Option (List Decl) := cond b ((cu ty).map fun e => ⟨nm, e⟩ :: sc) (some sc)
mutual
def bE (env : Env) : List Decl → Tm → TR
 | sc, .mk op nm _ ty ks =>
  cond (op == 20) (match wN env sc nm with | some t => .ok t | none => .er 6 [])
   (cond (op == 29 && !(knows env ty)) (.er 6 [])
    (match gL env sc (bN op) nm 0 ks with
     | .er e p => .er e p
     | .ok l => sw (cond (op == 29) (some (bq ty)) (KH op l))))
def gL (env : Env) : List Decl → Bool → Str → Int → List Tm → KR
 | _, _, _, _, [] => .ok []
 | sc, b, nm, i, t :: ts => match bE env sc t with
  | .er e p => .er e (i :: p)
  | .ok ty => match nV b nm ty sc with
   | none => .er 7 []
   | some sc' => match gL env sc' false nm (i + 1) ts with
    | .er e p => .er e p
    | .ok l => .ok (ty :: l)
end
def GoodS (sc : List Decl) : Prop := ∀ d ∈ sc, Good d.ty
theorem L8 {t : Ty} (h : bV t = true) (hb : uS 2 t = false) : Good t := by
 rcases Ju h with rfl | h
 ·cases hb
 ·exact h
theorem PO {env : Env} (h : eD env = true) {s : Str} {t : Ty} (ht : look env s = some t) : Good t := by
 rw [Kh h] at ht
 unfold qy at ht
 rcases List.mem_append.1 ht with ht | ht
 ·obtain ⟨c, hc, ht⟩ := List.mem_flatMap.1 ht
  unfold jK at ht
  rcases List.mem_cons.1 ht with ht | ht
  ·cases ht; exact .set (.car _)
  ·obtain ⟨e, _, he⟩ := List.mem_map.1 ht
   cases he; exact .car _
 ·obtain ⟨d, hd, he⟩ := List.mem_map.1 ht
  cases he
  obtain ⟨_, h1, h2, _⟩ := G8 h hd
  exact L8 h1 h2
theorem Pd {env : Env} (h : eD env = true) {sc : List Decl} (hs : GoodS sc) {s : Str} {t : Ty} (ht : wN env sc s = some t) : Good t := by
 unfold wN at ht
 cases hf : sc.find? (fun d => d.name == s) with
 | some d => rw [hf] at ht; cases ht; exact hs d (List.mem_of_find?_eq_some hf)
 | none => rw [hf] at ht; exact PO h ht
theorem Im {o : Option Ty} {t : Ty} (h : sw o = .ok t) : o = some t ∧ bV t = true := by
 cases o with
 | none => cases h
 | some u =>
  simp only [sw] at h
  cases hv : bV u with
  | false => rw [hv] at h; cases h
  | true => rw [hv] at h; cases h; exact ⟨rfl, hv⟩
theorem NP {o : Option Ty} {e : Int} {p : List Int} (h : sw o = .er e p) : e ≠ 0 ∧ p = [] := by
 cases o with
 | none => cases h; exact ⟨by decide, rfl⟩
 | some u =>
  simp only [sw] at h
  cases hv : bV u with
  | false => rw [hv] at h; cases h; exact ⟨by decide, rfl⟩
  | true => rw [hv] at h; cases h
theorem Gc {b : Bool} {nm : Str} {ty : Ty} {sc sc' : List Decl} (ht : Top ty) (hs : GoodS sc) (h : nV b nm ty sc = some sc') : GoodS sc' := by
 unfold nV at h
 cases b with
 | false => cases h; exact hs
 | true =>
  simp only [cond_true] at h
  cases he : cu ty with
  | none => rw [he] at h; cases h
  | some e =>
   rw [he] at h
   cases h
   intro d hd
   rcases List.mem_cons.1 hd with rfl | hd
   ·exact (DR ht he).1
   ·exact hs d hd
theorem BH {env : Env} (h : eD env = true) {t : Tm} {sc : List Decl} (hs : GoodS sc) {ty : Ty} (ht : bE env sc t = .ok ty) : Top ty := by
 obtain ⟨op, nm, m, u, ks⟩ := t
 simp only [bE] at ht
 cases h20 : (op == 20) with
 | true =>
  rw [h20] at ht
  simp only [cond_true] at ht
  cases hl : wN env sc nm with
  | none => rw [hl] at ht; cases ht
  | some t => rw [hl] at ht; cases ht; exact .inr (Pd h hs hl)
 | false =>
  rw [h20] at ht
  simp only [cond_false] at ht
  cases h29 : (op == 29 && !(knows env u)) with
  | true => rw [h29] at ht; cases ht
  | false =>
   rw [h29] at ht
   simp only [cond_false] at ht
   cases hk : gL env sc (bN op) nm 0 ks with
   | er e p => rw [hk] at ht; cases ht
   | ok l => rw [hk] at ht; exact Ju (Im ht).2
theorem IK {env : Env} (h : eD env = true) : ∀ (ts : List Tm) (sc : List Decl) (b : Bool) (nm : Str) (i : Int) (l : List Ty), GoodS sc → gL env sc b nm i ts = .ok l → l.length = ts.length ∧ (∀ t ∈ l, Top t) ∧ (b = true → ts ≠ [] → (cu (l.headD bM)).isSome = true)
 | [], sc, b, nm, i, l, _, hk => by
  simp only [gL] at hk
  cases hk
  exact ⟨rfl, fun t ht => (by cases ht), fun _ h => absurd rfl h⟩
 | t :: ts, sc, b, nm, i, l, hs, hk => by
  simp only [gL] at hk
  cases ht : bE env sc t with
  | er e p => rw [ht] at hk; cases hk
  | ok ty =>
   rw [ht] at hk
   simp only at hk
   have htop := BH h hs ht
   cases hb : nV b nm ty sc with
   | none => rw [hb] at hk; cases hk
   | some sc' =>
    rw [hb] at hk
    simp only at hk
    cases hr : gL env sc' false nm (i + 1) ts with
    | er e p => rw [hr] at hk; cases hk
    | ok l' =>
     rw [hr] at hk
     cases hk
     obtain ⟨h1, h2, _⟩ := IK h ts sc' false nm (i + 1) l' (Gc htop hs hb) hr
     refine ⟨by simp [h1], fun u hu => ?_, fun hbt _ => ?_⟩
     ·rcases List.mem_cons.1 hu with rfl | hu
      ·exact htop
      ·exact h2 u hu
     ·subst hbt
      show (cu ty).isSome = true
      unfold nV at hb
      cases he : cu ty with
      | none => rw [he] at hb; cases hb
      | some e => rfl
mutual
theorem zL {env : Env} : ∀ (t : Tm) (sc : List Decl) (e : Int) (p : List Int), bE env sc t = .er e p → e ≠ 0
 | .mk op nm m u ks, sc, e, p, h => by
  simp only [bE] at h
  cases h20 : (op == 20) with
  | true =>
   rw [h20] at h
   simp only [cond_true] at h
   cases hl : wN env sc nm with
   | none => rw [hl] at h; cases h; decide
   | some t => rw [hl] at h; cases h
  | false =>
   rw [h20] at h
   simp only [cond_false] at h
   cases h29 : (op == 29 && !(knows env u)) with
   | true => rw [h29] at h; cases h; decide
   | false =>
    rw [h29] at h
    simp only [cond_false] at h
    cases hk : gL env sc (bN op) nm 0 ks with
    | er e' p' => rw [hk] at h; cases h; exact NS ks sc _ nm 0 _ _ hk
    | ok l => rw [hk] at h; exact (NP h).1
theorem NS {env : Env} : ∀ (ts : List Tm) (sc : List Decl) (b : Bool) (nm : Str) (i : Int) (e : Int) (p : List Int), gL env sc b nm i ts = .er e p → e ≠ 0
 | [], sc, b, nm, i, e, p, h => by simp only [gL] at h; cases h
 | t :: ts, sc, b, nm, i, e, p, h => by
  simp only [gL] at h
  cases ht : bE env sc t with
  | er e' p' => rw [ht] at h; cases h; exact zL t sc _ _ ht
  | ok ty =>
   rw [ht] at h
   simp only at h
   cases hb : nV b nm ty sc with
   | none => rw [hb] at h; cases h; decide
   | some sc' =>
    rw [hb] at h
    simp only at h
    cases hr : gL env sc' false nm (i + 1) ts with
    | er e' p' => rw [hr] at h; cases h; exact NS ts sc' false nm _ _ _ hr
    | ok l' => rw [hr] at h; cases h
end
mutual
theorem Jm {env : Env} : ∀ {t : Tm} {d : Int} (_ : Wf d t) (sc : List Decl) (e : Int) (p : List Int), bE env sc t = .er e p → (p.length : Int) + d ≤ 64
 | .mk op nm m u ks, d, hw, sc, e, p, h => by
  obtain ⟨_, hd, _, hkw⟩ := hw.node
  simp only [bE] at h
  cases h20 : (op == 20) with
  | true =>
   rw [h20] at h
   simp only [cond_true] at h
   cases hl : wN env sc nm with
   | none => rw [hl] at h; cases h; simpa using hd
   | some t => rw [hl] at h; cases h
  | false =>
   rw [h20] at h
   simp only [cond_false] at h
   cases h29 : (op == 29 && !(knows env u)) with
   | true => rw [h29] at h; cases h; simpa using hd
   | false =>
    rw [h29] at h
    simp only [cond_false] at h
    cases hk : gL env sc (bN op) nm 0 ks with
    | er e' p' => rw [hk] at h; cases h; exact Jt ks d hd hkw sc _ nm 0 _ _ hk
    | ok l => rw [hk] at h; rw [(NP h).2]; simpa using hd
theorem Jt {env : Env} : ∀ (ts : List Tm) (d : Int) (_ : d ≤ 64) (_ : ∀ t ∈ ts, Wf (d + 1) t) (sc : List Decl) (b : Bool) (nm : Str) (i : Int) (e : Int) (p : List Int), gL env sc b nm i ts = .er e p → (p.length : Int) + d ≤ 64
 | [], d, _, _, sc, b, nm, i, e, p, h => by simp only [gL] at h; cases h
 | t :: ts, d, hd, hw, sc, b, nm, i, e, p, h => by
  simp only [gL] at h
  cases ht : bE env sc t with
  | er e' p' =>
   rw [ht] at h
   cases h
   have := Jm (hw t (List.mem_cons_self ..)) sc _ _ ht
   simp only [List.length_cons, Int.natCast_add, Int.natCast_one]
   omega
  | ok ty =>
   rw [ht] at h
   simp only at h
   cases hb : nV b nm ty sc with
   | none => rw [hb] at h; cases h; simpa using hd
   | some sc' =>
    rw [hb] at h
    simp only at h
    cases hr : gL env sc' false nm (i + 1) ts with
    | er e' p' => rw [hr] at h; cases h; exact Jt ts d hd (fun u hu => hw u (List.mem_cons_of_mem _ hu)) sc' false nm _ _ _ hr
    | ok l' => rw [hr] at h; cases h
end
end Abs
end Go.Proofs.YtiiaccpcoclklaaGreat

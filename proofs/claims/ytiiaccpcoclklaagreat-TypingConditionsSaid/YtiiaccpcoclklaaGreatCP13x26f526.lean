/-
  The program's checker and the document's function come to the plain type of a term. Conditions: valid environments and terms; lemmas without a program.
-/
import Derived.Test.YtiiaccpcoclklaaGreatCDgx5ff6e3
import Derived.Test.YtiiaccpcoclklaaGreatCP6x4ef6ad
set_option linter.unusedSimpArgs false
set_option linter.unusedVariables false
namespace Go.Proofs.YtiiaccpcoclklaaGreat
namespace Abs
open Go
def qM (env : Env) : List (Str × Ty) := dU (qy env) []
def pE (env : Env) : List (Str × Bool) := dU (env.carriers.map fun c => (c.name, true)) []
theorem Lr {env : Env} (h : eD env = true) (s : Str) : dY (qM env) s = look env s := by
 unfold qM
 rw [Ea _ _ _ (tY h), yT]
 unfold look
 rw [← Gf (GU env) (tY h)]
 cases dY (qy env) s <;> rfl
theorem L9 {env : Env} (h : eD env = true) (s : Str) : dY (pE env) s = cond (gZ env s) (some true) none := by
 unfold pE
 have hn : ((env.carriers.map fun c => (c.name, true)).map (·.1)).Nodup := by
  have := (pJ h).2.2.2.2
  unfold names2 at this
  rw [List.map_map]
  exact (List.nodup_append.1 this).1
 rw [Ea _ _ _ hn, yT, QH (fun c : Carrier => c.name) (fun _ => true)]
 unfold gZ
 cases hf : env.carriers.find? (fun c => c.name == s) with
 | none =>
  have : (env.carriers.any fun c => c.name == s) = false := by
   rw [List.any_eq_false]
   intro x hx
   simpa using List.find?_eq_none.1 hf x hx
  rw [this]
  rfl
 | some c =>
  have : (env.carriers.any fun c => c.name == s) = true := List.any_eq_true.2 ⟨c, List.mem_of_find?_eq_some hf, by have := List.find?_some hf; simpa using this⟩
  rw [this]
  rfl
theorem JX {env : Env} (h : eD env = true) : Ev (fun n => mh n env) (qM env, pE env) := by
 obtain ⟨hc8, _⟩ := pJ h
 unfold mh
 refine Ev.bind (RP h) ?_
 have h1 := oL (ρ := (List (Str × Ty)) × (List (Str × Bool))) env.carriers (fun n k i s => ku n env k (i, s)) (fun n x s => qb s x.name true) (fun x s => jI s x.name true) (fun s => s) (fun suf s => s.length + suf.length ≤ 1000)
  (fun n k i s => rfl)
  (fun x suf s hx hs => by
   simp only [List.length_cons] at hs
   refine ⟨?_, ?_⟩
   ·rw [wX (by omega)]; exact Ev.ret _
   ·have := rU s x.name true; omega) (s0 := []) (by simp; omega)
 have hf : ∀ (cs : List Carrier) (m : List (Str × Bool)), cs.foldl (fun s x => jI s x.name true) m = dU (cs.map fun c => (c.name, true)) m := by
  intro cs
  induction cs with
  | nil => intro m; rfl
  | cons e es ih => intro m; rw [List.foldl_cons, ih]; rfl
 rw [hf] at h1
 exact Ev.bind h1 (Ev.ret _)
theorem Sw {env : Env} (h : eD env = true) {t : Ty} (ht : bV t = true) (M : List (Str × Ty)) (path : List Int) : Ev (fun n => jc n M (pE env) path t) (knows env t) := by
 unfold jc iZ jW knows
 refine Ev.bind (vH ht) ?_
 generalize hl : ((dU ((iM t).map fun s => (s, true)) []).map (·.1)).mergeSort Hg = l
 have hm : ∀ s, s ∈ l ↔ s ∈ iM t := fun s => by rw [← hl]; exact Dx t s
 have hf := uU l (fun n k i => fU n l M (pE env) path k i) (fun n x => jw n x M (pE env) path) (fun s => !(gZ env s)) (fun n k i => rfl) (fun x _ => by
  unfold jw
  rw [L9 h]
  cases gZ env x
  ·exact Ev.ret _
  ·exact Ev.ret _)
 refine Ev.bind (a := l.any fun s => !(gZ env s)) (Ev.bind hf ?_) ?_
 ·rw [rX _ _ _ (Int.le_refl _)]
  exact Ev.ret _
 ·rw [pV, Bool.not_not]
  have : l.all (gZ env) = (iM t).all (gZ env) := by
   have h : (l.all (gZ env) = true) ↔ ((iM t).all (gZ env) = true) := by simp only [List.all_eq_true, hm]
   cases h1 : l.all (gZ env) <;> cases h2 : (iM t).all (gZ env) <;> simp_all
  rw [this]
  exact Ev.ret _
theorem Gb (n : Nat) (op : Int) : nH n op = some (bN op) := by
 unfold nH bN
 simp only [SV, Option.bind_some]
theorem Gl (t : Ty) : Ev (fun n => jS n t) (cond (bV t) (t, 0) (bM, 5)) := by
 unfold jS
 refine Ev.bind (ou t) ?_
 cases bV t
 ·exact Ev.ret _
 ·exact Ev.ret _
def XA (o : Option Decl) : Ty × Bool := match o with | some d => (d.ty, true) | none => (bM, false)
theorem Hr (sc : List Decl) (s : Str) : Ev (fun n => jm n sc s) (XA (sc.find? fun d => d.name == s)) := by
 have key : ∀ (sc : List Decl) (n k : Nat), sc.length + 1 ≤ k → fG n s k sc = some (match sc.find? (fun d => d.name == s) with | some d => .rt (d.ty, true) | none => .nx ()) := by
  intro sc
  induction sc with
  | nil =>
   intro n k hk
   cases k with
   | zero => simp at hk
   | succ k => rfl
  | cons d sc ih =>
   intro n k hk
   cases k with
   | zero => simp at hk
   | succ k =>
    show cond (d.name == s) (some (.rt (d.ty, true))) (fG n s k sc) = _
    simp only [List.find?_cons]
    cases hd : d.name == s with
    | true => rfl
    | false => exact ih n k (by simp at hk; omega)
 unfold jm
 have h1 : Ev (fun n => fG n s n sc) (match sc.find? (fun d => d.name == s) with | some d => .rt (d.ty, true) | none => .nx ()) := ⟨sc.length + 1, fun n hn => key sc n n hn⟩
 refine Ev.bind h1 ?_
 cases sc.find? fun d => d.name == s
 ·exact Ev.ret _
 ·exact Ev.ret _
def zu (path : List Int) (r : TR) : Ty × Int × List Int := match r with | .ok t => (t, 0, path) | .er e p => (bM, e, path ++ p)
abbrev CS := List Decl × List Ty × List Int
def Xb (env : Env) (n : Nat) (t : Tm) (i : Int) (s : CS) : Option (LR CS (Ty × Int × List Int)) := (dX n (qM env) (pE env) s.2.2 t i s.1).bind fun (x57 : Ty × Int × (List Int)) => (cond (x57.2.1 != 0) (some (.rt ((Ty.mk 0 ([] : Str) ([])), x57.2.1, x57.2.2))) ((app 48 s.2.1 ([x57.1])).bind fun (x58 : List Ty) => (((cond (i == 0) ((nH n t.op).bind fun (x60 : Bool) => some x60) (some false)) : Option Bool).bind fun (s6 : Bool) => (cond s6 ((bJ n x57.1).bind fun (x59 : Ty × Bool) => (cond (!x59.2) (some (.rt ((Ty.mk 0 ([] : Str) ([])), 7, x57.2.2))) (some (.nx (((Decl.mk t.name x59.1) :: s.1), x58, x57.2.2))))) (some (.nx (s.1, x58, x57.2.2)))))))
def MW (env : Env) (op : Int) (nm : Str) (i : Int) (x : Tm) (s : CS) : LR CS (Ty × Int × List Int) := match bE env s.1 x with
 | .er e p => .rt (bM, e, s.2.2 ++ i :: p)
 | .ok ty => match nV (i == 0 && bN op) nm ty s.1 with
  | none => .rt (bM, 7, s.2.2)
  | some sc' => .nx (sc', s.2.1 ++ [ty], s.2.2)
theorem NC (env : Env) (op : Int) (nm : Str) : ∀ (ts : List Tm) (i : Int) (sc : List Decl) (acc : List Ty) (path : List Int), 0 ≤ i → (match gL env sc (i == 0 && bN op) nm i ts with
  | .er e p => kU (MW env op nm) (fun s => s) i ts (sc, acc, path) = .rt (bM, e, path ++ p)
  | .ok l => ∃ sc', kU (MW env op nm) (fun s => s) i ts (sc, acc, path) = .nx (sc', acc ++ l, path))
 | [], i, sc, acc, path, _ => by
  simp only [gL, kU, List.append_nil]
  exact ⟨sc, rfl⟩
 | t :: ts, i, sc, acc, path, hi => by
  simp only [gL, kU, MW]
  cases ht : bE env sc t with
  | er e p => rfl
  | ok ty =>
   simp only
   cases hb : nV (i == 0 && bN op) nm ty sc with
   | none => simp only [List.append_nil]
   | some sc' =>
    simp only
    have hz : (i + 1 == 0) = false := by simp only [beq_eq_false_iff_ne]; omega
    have := NC env op nm ts (i + 1) sc' (acc ++ [ty]) path (by omega)
    rw [hz, Bool.false_and] at this
    cases hr : gL env sc' false nm (i + 1) ts with
    | er e p => rw [hr] at this; exact this
    | ok l =>
     rw [hr] at this
     obtain ⟨sc2, h2⟩ := this
     exact ⟨sc2, by rw [h2]; simp⟩
def Qs (env : Env) (t : Tm) : Prop := ∀ (d : Int) (sc : List Decl) (path : List Int), Wf d t → GoodS sc → (path.length : Int) < d → Ev (fun n => eU n (qM env) (pE env) path t sc) (zu path (bE env sc t))
theorem Qh (path : List Int) (i : Int) (h : path.length ≤ 1000) : qx (path ++ [i]) 0 (IntKind.wrap .i64 (((path ++ [i]).length : Int) - 1)) = some path := by
 have e : ((path ++ [i]).length : Int) - 1 = (path.length : Int) := by simp
 rw [e, wrap64 (by omega) (by omega), F9 _ _ (by simp)]
 simp
theorem Sr {env : Env} {t x : Tm} {i : Int} (hx : idx t.kids i = some x) (hc : Qs env x) {d : Int} {sc : List Decl} {path : List Int} (hw : Wf (d + 1) x) (hs : GoodS sc) (hp : (path.length : Int) < d) (hd : d ≤ 64) :
  Ev (fun n => dX n (qM env) (pE env) path t i sc) (match bE env sc x with | .ok ty => (ty, 0, path) | .er e p => (bM, e, path ++ i :: p)) := by
 refine Ev.succ ?_
 show Ev (fun n => iy n _ _ (qM env) (pE env) path t i sc) _
 unfold iy
 rw [pq (by simp; omega) (by omega), hx]
 simp only [Option.bind_some]
 refine Ev.bind (hc (d + 1) sc (path ++ [i]) hw hs (by simp; omega)) ?_
 cases ht : bE env sc x with
 | ok ty =>
  simp only [zu]
  refine Ev.bind (a := path) ?_ (Ev.ret _)
  simp only [show ((0 : Int) == 0) = true from rfl, cond_true]
  rw [Qh path i (by omega)]
  exact Ev.ret _
 | er e p =>
  have he := zL x sc e p ht
  have e0 : (e == 0) = false := by simpa using he
  simp only [zu, e0, cond_false, Option.bind_some, List.append_assoc, List.singleton_append]
  exact Ev.ret _
theorem Q9 (n : Nat) (r1 : (List (Str × Ty)) → (List (Str × Bool)) → (List Int) → Tm → (List Decl) → Option (Ty × Int × (List Int))) (r2 : (List (Str × Ty)) → (List (Str × Bool)) → (List Int) → Tm → Int → (List Decl) → Option (Ty × Int × (List Int))) (p0 : List (Str × Ty)) (p1 : List (Str × Bool)) (p2 : List Int) (p3 : Tm) (p4 : List Decl) :
  jA n r1 r2 p0 p1 p2 p3 p4 = ((iY n r1 r2 p0 p1 p3 n (p4, ([] : List Ty), 0, p2)).bind (LR.el (fun (s2 : (List Decl) × (List Ty) × (List Int)) => (cond (p3.op == 20) ((jm n s2.1 p3.name).bind fun (x1 : Ty × Bool) => (cond x1.2 (some (x1.1, 0, s2.2.2)) (((JE (dY p0 p3.name) (some (false, 0, ([] : Str), ([] : List Ty))) (fun (x2 : Ty) => some (true, x2.kind, x2.name, x2.kids))) : Option (Bool × Int × Str × (List Ty))).bind fun (s3 : Bool × Int × Str × (List Ty)) => (cond (!s3.1) (some ((Ty.mk 0 ([] : Str) ([])), 6, s2.2.2)) (some ((Ty.mk s3.2.1 s3.2.2.1 s3.2.2.2), 0, s2.2.2)))))) (cond (p3.op == 29) ((jc n p0 p1 s2.2.2 p3.ty).bind fun (x3 : Bool) => (cond (!x3) (some ((Ty.mk 0 ([] : Str) ([])), 6, s2.2.2)) ((jS n (Ty.mk 5 ([] : Str) ([p3.ty]))).bind fun (x4 : Ty × Int) => some (x4.1, x4.2, s2.2.2)))) ((Qg n p3.op s2.2.1).bind fun (s4 : Bool × Int × Str × (List Ty)) => (cond (!s4.1) (some ((Ty.mk 0 ([] : Str) ([])), 7, s2.2.2)) ((jS n (Ty.mk s4.2.1 s4.2.2.1 s4.2.2.2)).bind fun (x5 : Ty × Int) => some (x5.1, x5.2, s2.2.2))))))) (fun r => some r))) := rfl
theorem VL {env : Env} (hv : eD env = true) : ∀ t : Tm, Qs env t := Tm.ind fun op nm m ty ks ih d sc path hw hs hp => by
 obtain ⟨hnode, hd, hks, hkw⟩ := hw.node
 obtain ⟨hop, h20k, h29k, hlen, hbk⟩ := sK hnode
 refine Ev.succ ?_
 show Ev (fun n => jA n (fun p0 p1 p2 p3 p4 => eU n p0 p1 p2 p3 p4) (fun p0 p1 p2 p3 p4 p5 => dX n p0 p1 p2 p3 p4 p5) (qM env) (pE env) path (.mk op nm m ty ks) sc) _
 simp only [Q9]
 have hloop := Oj ks (fun n k i (s : CS) => iY n (fun p0 p1 p2 p3 p4 => eU n p0 p1 p2 p3 p4) (fun p0 p1 p2 p3 p4 p5 => dX n p0 p1 p2 p3 p4 p5) (qM env) (pE env) (.mk op nm m ty ks) k (s.1, s.2.1, i, s.2.2))
  (fun n i _ s => Xb env n (.mk op nm m ty ks) i s) (MW env op nm) (fun s => s) (fun _ suf s => GoodS s.1 ∧ s.2.1.length + suf.length ≤ 2000 ∧ s.2.2 = path)
  (fun n k s => by
   show cond (decide ((ks.length : Int) < (ks.length : Int))) _ _ = _
   rw [decide_eq_false (by omega)]
   rfl)
  (fun n k i x s hx hi => by
   show cond (decide (i < (ks.length : Int))) _ _ = _
   rw [hi]
   rfl)
  (fun i x suf s hx hI hidx => by
   obtain ⟨h1, h2, h3⟩ := hI
   simp only [List.length_cons] at h2
   have hch := Sr (t := .mk op nm m ty ks) (i := i) hidx (ih x hx) (hkw x hx) h1 (path := s.2.2) (by rw [h3]; exact hp) hd
   refine ⟨?_, fun s' hs' => ?_⟩
   ·refine Ev.bind hch ?_
    unfold MW
    cases ht : bE env s.1 x with
    | er e p =>
     have he := zL x s.1 e p ht
     have e0 : (e != 0) = true := by simpa using he
     simp only [e0, cond_true]
     exact Ev.ret _
    | ok u =>
     have htop := BH hv h1 ht
     simp only [show ((0 : Int) != 0) = false from rfl, cond_false]
     rw [pq (by simp; omega) (by omega)]
     simp only [Option.bind_some, Gb, Tm.op, Tm.name]
     refine Ev.bind (a := (i == 0 && bN op)) ?_ ?_
     ·cases i == 0
      ·exact Ev.ret _
      ·exact Ev.ret _
     ·unfold nV
      cases (i == 0 && bN op) with
      | false => exact Ev.ret _
      | true =>
       simp only [cond_true, fB _ htop, Option.bind_some]
       cases cu u with
       | none => exact Ev.ret _
       | some e => exact Ev.ret _
   ·unfold MW at hs'
    cases ht : bE env s.1 x with
    | er e p => rw [ht] at hs'; cases hs'
    | ok u =>
     rw [ht] at hs'
     simp only at hs'
     cases hb : nV (i == 0 && bN op) nm u s.1 with
     | none => rw [hb] at hs'; cases hs'
     | some sc' =>
      rw [hb] at hs'
      cases hs'
      refine ⟨Gc (BH hv h1 ht) h1 hb, ?_, h3⟩
      simp only [List.length_append, List.length_singleton]
      omega) (s0 := (sc, [], path)) ⟨hs, by simp; omega, rfl⟩
 have hrun := NC env op nm ks 0 sc [] path (Int.le_refl _)
 simp only [show ((0 : Int) == 0) = true from rfl, Bool.true_and, List.nil_append] at hrun
 simp only [bE]
 cases h20 : (op == 20) with
 | true =>
  have e : op = 20 := by simpa using h20
  have hk := h20k e
  subst hk
  refine Ev.bind hloop ?_
  simp only [kU, LR.el, Tm.op, Tm.name, h20, cond_true]
  refine Ev.bind (Hr sc nm) ?_
  unfold wN
  cases sc.find? (fun d => d.name == nm) with
  | some d => exact Ev.ret _
  | none =>
   simp only [XA, cond_false, cond_true, Tm.name, Lr hv]
   cases hl : look env nm with
   | none => simp only [zu, List.append_nil]; exact Ev.ret _
   | some t => obtain ⟨a, b, c⟩ := t; exact Ev.ret _
 | false =>
  simp only [cond_false]
  cases h29 : (op == 29) with
  | true =>
   have e : op = 29 := by simpa using h29
   obtain ⟨hk, hvt, _⟩ := h29k e
   subst hk
   refine Ev.bind hloop ?_
   simp only [Tm.op, h20, h29, cond_false, cond_true, Tm.ty]
   refine Ev.bind (Sw hv hvt _ _) ?_
   cases knows env ty with
   | false => simp only [Bool.not_false, Bool.and_true, cond_true, zu, List.append_nil]; exact Ev.ret _
   | true =>
    simp only [Bool.not_true, Bool.and_false, cond_false, gL, sw]
    refine Ev.bind (Gl (bq ty)) ?_
    cases bV (bq ty) with
    | false => simp only [cond_false, zu, List.append_nil]; exact Ev.ret _
    | true => exact Ev.ret _
  | false =>
   simp only [Bool.false_and, cond_false]
   cases hk : gL env sc (bN op) nm 0 ks with
   | er e p =>
    rw [hk] at hrun
    simp only at hrun
    rw [hrun] at hloop
    exact Ev.bind hloop (Ev.ret _)
   | ok l =>
    rw [hk] at hrun
    obtain ⟨sc', hrun⟩ := hrun
    rw [hrun] at hloop
    refine Ev.bind hloop ?_
    simp only [LR.el, Tm.op, h20, h29, cond_false]
    obtain ⟨k1, k2, k3⟩ := IK hv ks sc (bN op) nm 0 l hs hk
    obtain ⟨r, hr1, hr2⟩ := QV hop.1 hop.2 (by simpa using h20) (by simpa using h29) k2 (hlen l k1) (fun hb => k3 hb (by obtain ⟨x, y, e⟩ := hbk hb; rw [e]; simp))
    refine Ev.bind hr1 ?_
    cases ho : KH op l with
    | none =>
     rw [ho] at hr2
     simp only at hr2
     simp only [hr2, Bool.not_false, cond_true, sw, zu, List.append_nil]
     exact Ev.ret _
    | some t =>
     rw [ho] at hr2
     simp only at hr2
     subst hr2
     simp only [Bool.not_true, cond_false, yt, sw]
     refine Ev.bind (Gl t) ?_
     cases bV t with
     | false => simp only [cond_false, zu, List.append_nil]; exact Ev.ret _
     | true => exact Ev.ret _
end Abs
end Go.Proofs.YtiiaccpcoclklaaGreat
namespace Go.Proofs.YtiiaccpcoclklaaGreat
namespace Abs
open Go
def O4 (r : TR) : Ty × List Int × Int := match r with | .ok t => (t, [], 0) | .er e p => (bM, p, e)
end Abs
end Go.Proofs.YtiiaccpcoclklaaGreat
namespace Go.Proofs.YtiiaccpcoclklaaGreat
namespace Abs
open Go
def mX (env : Env) (t : Tm) : Ty × List Int × Int := cond (eD env && jQ t) (O4 (bE env [] t)) (bM, [], 1)
theorem Qm : GoodS [] := fun _ h => by cases h
abbrev CY (env : Env) : Prop := ∀ d ∈ env.names, d.name.length ≤ 9223372036854775807
theorem xR (env : Env) (t : Tm) (hs : CY env) (ht : gU t) : Ev (fun n => nD n env t) (mX env t) := by
 unfold nD mX
 refine Ev.bind (a := !(eD env && jQ t)) ?_ ?_
 ·refine Ev.bind (Dg env hs) ?_
  cases eD env with
  | false => exact Ev.ret _
  | true => exact Ev.bind (vQ t ht) (Ev.ret _)
 ·cases hb : (eD env && jQ t) with
  | false => exact Ev.ret _
  | true =>
   simp only [Bool.and_eq_true] at hb
   simp only [Bool.not_true, cond_false, cond_true]
   refine Ev.bind (JX hb.1) ?_
   refine Ev.bind (VL hb.1 t 1 [] [] (oP hb.2) Qm (by simp)) ?_
   cases hr : bE env [] t with
   | er e p =>
    have he := zL t [] e p hr
    have e0 : (e != 0) = true := by simpa using he
    have hp := Jm (oP hb.2) [] e p hr
    simp only [zu, O4, e0, cond_true, slices_Clone_int, List.nil_append]
    rw [pq (by simp; omega) (by omega)]
    exact Ev.ret _
   | ok u =>
    simp only [zu, O4, show ((0 : Int) != 0) = false from rfl, cond_false]
    exact Ev.bind (Fa u (Wu (BH hb.1 Qm hr))) (Ev.ret _)
def Po (env : Env) (t : Tm) : Int := cond ((mX env t).2.2 == 0 && (mX env t).1.kind != 2) 7 (mX env t).2.2
theorem Xf (r : Ty × List Int × Int) : Ev (fun _ => ((cond (r.2.2 == 0) (some (r.1.kind != 2)) (some false)) : Option Bool).bind fun (s1 : Bool) => (cond s1 (some (7 : Int)) (some r.2.2))) (cond (r.2.2 == 0 && r.1.kind != 2) 7 r.2.2) := by
 cases r.2.2 == 0 with
 | false => exact Ev.ret _
 | true =>
  cases r.1.kind != 2
  ·exact Ev.ret _
  ·exact Ev.ret _
theorem Cx (env : Env) (t : Tm) (hs : CY env) (ht : gU t) : Ev (fun n => mZ n env t) (Po env t) := by
 unfold mZ
 exact Ev.bind (xR env t hs ht) (Xf _)
end Abs
end Go.Proofs.YtiiaccpcoclklaaGreat
namespace Go.Proofs.YtiiaccpcoclklaaGreat
namespace Abs
open Go
theorem Ug {op : Int} {nm : Str} {m : Int} {ty : Ty} {ks : List Tm} (h : mG (.mk op nm m ty ks) = true) : xP ty = true := by
 simp only [mG, Bool.and_eq_true] at h
 have h5 := h.2.2.2
 unfold SA at h5
 simp only [Tm.op, Tm.ty] at h5
 cases h29 : op == 29 with
 | true =>
  rw [h29] at h5
  simp only [cond_true, Bool.and_eq_true] at h5
  exact (Ku h5.1).1
 | false =>
  rw [h29] at h5
  simp only [cond_false] at h5
  obtain ⟨k, n, l⟩ := ty
  unfold wU at h5
  simp only [Ty.kind, Ty.name, Ty.kids, Bool.and_eq_true, beq_iff_eq] at h5
  have : l = [] := List.length_eq_zero_iff.1 (by omega)
  subst this
  simp [xP, zw]
theorem MJ : ∀ t : Tm, ∀ d : Int, Wf d t → Ev (fun n => gu n t) t := Tm.ind fun op nm m ty ks ih d hw => by
 obtain ⟨hnode, _, hks, hkw⟩ := hw.node
 refine Ev.succ ?_
 show Ev (fun n => jY n (fun p0 => gu n p0) (.mk op nm m ty ks)) _
 unfold jY
 simp only [Tm.op, Tm.name, Tm.n, Tm.ty]
 refine Ev.bind (Fa ty (Ug hnode)) ?_
 have h := oL (ρ := Tm) ks (fun n k i s => lC n (fun p0 => gu n p0) (.mk op nm m ty ks) k (i, s)) (fun n x s => (gu n x).bind fun y => app 104 s [y]) (fun x s => s ++ [x]) (fun s => s) (fun suf s => s.length + suf.length ≤ 2000)
  (fun n k i s => by
   show cond _ _ _ = _
   congr 1
   show (idx ks i).bind _ = _
   congr 1
   funext x
   simp only [Option.bind_assoc])
  (fun x suf s hx hs => by
   simp only [List.length_cons] at hs
   refine ⟨Ev.bind (ih x hx (d + 1) (hkw x hx)) ?_, by simp only [List.length_append, List.length_singleton]; omega⟩
   rw [pq (by simp; omega) (by omega)]
   exact Ev.ret _) (s0 := []) (by simp; omega)
 rw [BD, List.nil_append] at h
 exact Ev.bind h (Ev.ret _)
def fH (op : Int) (ks : List Tm) : Tm := .mk op [] 0 bM ks
def mM : Tm := fH 1 []
def xG (m : Int) : Tm := .mk 19 [] m bM []
def fV (p q : Tm) : Tm := cond (p.op == 1) q (cond (q.op == 1) p (fH 4 [p, q]))
def oV (op : Int) (p q : Tm) : Tm := cond (q.op == 1) q (fH op [p, q])
def allT (nm : Str) (d q : Tm) : Tm := cond (q.op == 1) q (.mk 8 nm 0 bM [d, q])
def Gg : Tm := .mk 0 [] 0 bM []
def og (l : List Tm) : Tm := l.headD Gg
def qd (l : List Tm) : Tm := (l.drop 1).headD Gg
def sW (op : Int) (ks : List Tm) (d : Tm) : Tm :=
 cond (op == 25) (fV d (fH 11 [qd ks, xG 0])) <|
 cond (op == 26) (fV (fV d (fH 13 [xG 0, og ks])) (fH 12 [xG 0, qd ks])) <|
 cond (op == 48 || op == 49) (fV d (fH 12 [xG 0, fH 47 [og ks]])) <|
 cond (op == 54) (fV d (fH 10 [fH 47 [fH 53 [og ks, fH 28 [qd ks]]], xG 1])) d
def Bg (op : Int) (nm : Str) (ks ds : List Tm) : Tm :=
 cond (op == 4 || op == 6) (fV (og ds) (oV 6 (og ks) (qd ds))) <|
 cond (op == 5) (fV (og ds) (oV 5 (og ks) (qd ds))) <|
 cond (bN op) (fV (og ds) (allT nm (og ks) (qd ds))) <|
 sW op ks (ds.foldl fV mM)
mutual
def dA : Tm → Tm
 | .mk op nm _ _ ks => Bg op nm ks (J5 ks)
def J5 : List Tm → List Tm
 | [] => []
 | t :: ts => dA t :: J5 ts
end
theorem qB : ∀ ts, J5 ts = ts.map dA
 | [] => rfl
 | t :: ts => by simp [J5, qB ts]
theorem PS (t : Tm) : Tm.mk t.op t.name t.n (Ty.mk t.ty.kind t.ty.name t.ty.kids) t.kids = t := by obtain ⟨a, b, c, ⟨d, e, f⟩, g⟩ := t; rfl
theorem QJ (a b : Bool) : cond a (some a) (some b) = some (a || b) := by cases a <;> rfl
theorem Jw (n : Nat) (p q : Tm) : iD n p q = some (fV p q) := by
 unfold iD fV
 cases p.op == 1 with
 | true => rfl
 | false => cases q.op == 1 <;> rfl
theorem PD (n : Nat) (p q : Tm) : oI n p q = some (oV 6 p q) := by
 unfold oI oV
 cases q.op == 1 <;> rfl
theorem R5 (n : Nat) (p q : Tm) : vM n p q = some (oV 5 p q) := by
 unfold vM oV
 cases q.op == 1 <;> rfl
theorem P6 (n : Nat) (nm : Str) (p q : Tm) : uf n nm p q = some (allT nm p q) := by
 unfold uf allT
 cases q.op == 1 <;> rfl
theorem Xg : ∀ t : Tm, ∀ d : Int, Wf d t → Ev (fun n => dK n t) (dA t) := Tm.ind fun op nm m ty ks ih d hw => by
 obtain ⟨hnode, _, hks, hkw⟩ := hw.node
 obtain ⟨hop, _, _, hlen, hbk⟩ := sK hnode
 have two : bY op = 2 → ∃ a b, ks = [a, b] := fun h => by
  have hl := (hlen (ks.map fun _ => bM) (by simp)).two h
  exact dS ks (by simpa using hl)
 have one : bY op = 1 → ∃ a, ks = [a] := fun h => by
  have hl := (hlen (ks.map fun _ => bM) (by simp)).one h
  exact tC ks (by simpa using hl)
 have ihk : ∀ u ∈ ks, Ev (fun n => dK n u) (dA u) := fun u hu => ih u hu (d + 1) (hkw u hu)
 refine Ev.succ ?_
 show Ev (fun n => je n (fun p0 => dK n p0) (.mk op nm m ty ks)) _
 unfold je
 simp only [Tm.op, Tm.name, Tm.kids, QJ, Option.bind_some, dA, Bg, qB, Jw, PD, R5, P6]
 cases h46 : (op == 4 || op == 6) with
 | true =>
  have : bY op = 2 := by
   simp only [Bool.or_eq_true, beq_iff_eq] at h46
   rcases h46 with rfl | rfl <;> rfl
  obtain ⟨a, b, rfl⟩ := two this
  simp only [cond_true, l5, uP, Option.bind_some]
  refine Ev.bind (ihk a (by simp)) ?_
  exact Ev.bind (ihk b (by simp)) (Ev.ret _)
 | false =>
  simp only [cond_false]
  cases h5 : (op == 5) with
  | true =>
   have : bY op = 2 := by
    simp only [beq_iff_eq] at h5
    subst h5; rfl
   obtain ⟨a, b, rfl⟩ := two this
   simp only [cond_true, l5, uP, Option.bind_some]
   refine Ev.bind (ihk a (by simp)) ?_
   exact Ev.bind (ihk b (by simp)) (Ev.ret _)
  | false =>
   simp only [cond_false]
   rw [show (op == 8 || (op == 9 || (op == 55 || op == 56))) = bN op from rfl]
   cases hb : bN op with
   | true =>
    obtain ⟨a, b, rfl⟩ := hbk hb
    simp only [cond_true, l5, uP, Option.bind_some]
    refine Ev.bind (ihk a (by simp)) ?_
    exact Ev.bind (ihk b (by simp)) (Ev.ret _)
   | false =>
    simp only [cond_false]
    have h := oL (ρ := Tm) ks (fun n k i (s : Tm) => jO n (fun p0 => dK n p0) (.mk op nm m ty ks) k (i, s.op, s.name, s.n, s.ty.kind, s.ty.name, s.ty.kids, s.kids)) (fun n x s => (dK n x).bind fun y => iD n s y) (fun x s => fV s (dA x)) (fun s => (s.op, s.name, s.n, s.ty.kind, s.ty.name, s.ty.kids, s.kids)) (fun _ _ => True)
     (fun n k i s => by
      show cond _ _ _ = _
      congr 1
      show (idx ks i).bind _ = _
      congr 1
      funext x
      simp only [Option.bind_assoc, PS])
     (fun x suf s hx _ => ⟨Ev.bind (ihk x hx) (by simp only [Jw]; exact Ev.ret _), trivial⟩) (s0 := mM) trivial
    have hf : ∀ (l : List Tm) (s : Tm), l.foldl (fun s x => fV s (dA x)) s = (l.map dA).foldl fV s := by
     intro l
     induction l with
     | nil => intro s; rfl
     | cons x l ih => intro s; rw [List.foldl_cons, ih]; rfl
    rw [hf] at h
    refine Ev.bind h ?_
    simp only [LR.el, PS, sW]
    generalize (ks.map dA).foldl fV mM = D
    cases h25 : (op == 25) with
    | true =>
     have : bY op = 2 := by
      simp only [beq_iff_eq] at h25
      subst h25; rfl
     obtain ⟨a, b, rfl⟩ := two this
     exact Ev.ret _
    | false =>
     cases h26 : (op == 26) with
     | true =>
      have : bY op = 2 := by
       simp only [beq_iff_eq] at h26
       subst h26; rfl
      obtain ⟨a, b, rfl⟩ := two this
      exact Ev.ret _
     | false =>
      cases h48 : (op == 48 || op == 49) with
      | true =>
       have : bY op = 1 := by
        simp only [Bool.or_eq_true, beq_iff_eq] at h48
        rcases h48 with rfl | rfl <;> rfl
       obtain ⟨a, rfl⟩ := one this
       exact Ev.ret _
      | false =>
       cases h54 : (op == 54) with
       | true =>
        have : bY op = 2 := by
         simp only [beq_iff_eq] at h54
         subst h54; rfl
        obtain ⟨a, b, rfl⟩ := two this
        exact Ev.ret _
       | false => exact Ev.ret _
theorem Fy : ∀ {ts : List Tm}, vO ts ↔ ∀ t ∈ ts, gU t
 | [] => ⟨fun _ t h => (by cases h), fun _ => trivial⟩
 | t :: ts => by
  simp only [vO]
  rw [Fy]
  exact ⟨fun h u hu => (by
   rcases List.mem_cons.1 hu with rfl | hu
   ·exact h.1
   ·exact h.2 u hu), fun h => ⟨h t (List.mem_cons_self ..), fun u hu => h u (List.mem_cons_of_mem _ hu)⟩⟩
theorem lX {op : Int} {ks : List Tm} (h : ∀ t ∈ ks, gU t) : gU (fH op ks) := by
 simp only [fH, gU]
 exact ⟨by simp, Fy.2 h⟩
theorem NM (m : Int) : gU (xG m) := by simp [xG, gU, vO]
theorem qO {p q : Tm} (hp : gU p) (hq : gU q) : gU (fV p q) := by
 unfold fV
 cases p.op == 1 with
 | true => exact hq
 | false =>
  cases q.op == 1 with
  | true => exact hp
  | false => exact lX (by simp [hp, hq])
theorem NA {op : Int} {p q : Tm} (hp : gU p) (hq : gU q) : gU (oV op p q) := by
 unfold oV
 cases q.op == 1 with
 | true => exact hq
 | false => exact lX (by simp [hp, hq])
theorem UL {nm : Str} (hn : nm.length ≤ 9223372036854775807) {p q : Tm} (hp : gU p) (hq : gU q) : gU (allT nm p q) := by
 unfold allT
 cases q.op == 1 with
 | true => exact hq
 | false => simp [gU, vO, hn, hp, hq]
theorem Iw : gU Gg := by simp [Gg, gU, vO]
theorem NJ {l : List Tm} (h : ∀ t ∈ l, gU t) : gU (og l) := by
 cases l with
 | nil => exact Iw
 | cons a l => exact h a (by simp)
theorem Nb {l : List Tm} (h : ∀ t ∈ l, gU t) : gU (qd l) := by
 match l, h with
 | [], _ => exact Iw
 | [_], _ => exact Iw
 | _ :: b :: l, h => exact h b (by simp)
theorem Si {l : List Tm} : ∀ {s : Tm}, gU s → (∀ t ∈ l, gU t) → gU (l.foldl fV s) := by
 induction l with
 | nil => intro s hs _; exact hs
 | cons a l ih => intro s hs h; exact ih (qO hs (h a (by simp))) fun t ht => h t (by simp [ht])
theorem Oa : ∀ t : Tm, gU t → gU (dA t) := Tm.ind fun op nm m ty ks ih h => by
 simp only [gU] at h
 obtain ⟨hn, hk⟩ := h
 have hk := Fy.1 hk
 have hd : ∀ t ∈ ks.map dA, gU t := fun t ht => by
  obtain ⟨u, hu, rfl⟩ := List.mem_map.1 ht
  exact ih u hu (hk u hu)
 simp only [dA, qB, Bg]
 have h1 := NJ hd
 have h2 := Nb hd
 have k1 := NJ hk
 have k2 := Nb hk
 cases op == 4 || op == 6 with
 | true => exact qO h1 (NA k1 h2)
 | false =>
  cases op == 5 with
  | true => exact qO h1 (NA k1 h2)
  | false =>
   cases bN op with
   | true => exact qO h1 (UL hn k1 h2)
   | false =>
    have hD : gU ((ks.map dA).foldl fV mM) := Si (lX (by simp)) hd
    generalize (ks.map dA).foldl fV mM = D at hD
    simp only [cond_false, sW]
    have n0 := NM 0
    have n1 := NM 1
    cases op == 25 with
    | true => exact qO hD (lX (by simp [k2, n0]))
    | false =>
     cases op == 26 with
     | true => exact qO (qO hD (lX (by simp [k1, n0]))) (lX (by simp [k2, n0]))
     | false =>
      cases op == 48 || op == 49 with
      | true =>
       have a1 : gU (fH 47 [og ks]) := lX (by simp [k1])
       exact qO hD (lX (by simp [n0, a1]))
      | false =>
       cases op == 54 with
       | true =>
        have a1 : gU (fH 28 [qd ks]) := lX (by simp [k2])
        have a2 : gU (fH 53 [og ks, fH 28 [qd ks]]) := lX (by simp [k1, a1])
        have a3 : gU (fH 47 [fH 53 [og ks, fH 28 [qd ks]]]) := lX (by simp [a2])
        exact qO hD (lX (by simp [n1, a3]))
       | false => exact hD
def zq (env : Env) (t : Tm) : Tm × Int := cond ((mX env t).2.2 != 0) (Gg, (mX env t).2.2) (cond (jQ (dA t)) (dA t, 0) (Gg, 5))
theorem Jp {env : Env} {t : Tm} (h : ((mX env t).2.2 != 0) = false) : eD env = true ∧ jQ t = true ∧ ∃ ty, bE env [] t = .ok ty ∧ mX env t = (ty, [], 0) := by
 unfold mX at h ⊢
 cases hb : (eD env && jQ t) with
 | false => rw [hb] at h; cases h
 | true =>
  rw [hb] at h
  simp only [Bool.and_eq_true] at hb
  simp only [cond_true] at h ⊢
  cases ht : bE env [] t with
  | er e p =>
   have he := zL t [] e p ht
   rw [ht] at h
   simp only [O4, bne_eq_false_iff_eq] at h
   exact absurd h he
  | ok ty => exact ⟨hb.1, hb.2, ty, rfl, rfl⟩
theorem wm (env : Env) (t : Tm) (hs : CY env) (ht : gU t) : Ev (fun n => mR n env t) (zq env t) := by
 unfold mR zq
 refine Ev.bind (xR env t hs ht) ?_
 cases he : ((mX env t).2.2 != 0) with
 | true => exact Ev.ret _
 | false =>
  obtain ⟨_, hv, _⟩ := Jp he
  simp only [cond_false]
  refine Ev.bind (Xg t 1 (oP hv)) ?_
  refine Ev.bind (vQ _ (Oa t ht)) ?_
  cases hd : jQ (dA t) with
  | false => exact Ev.ret _
  | true => exact Ev.bind (MJ _ 1 (oP hd)) (Ev.ret _)
def wL (op : Int) : Bool := op == 25 || (op == 26 || (op == 48 || (op == 49 || op == 54)))
mutual
def vT : Tm → Bool
 | .mk op _ _ _ ks => !(wL op) && J6 ks
def J6 : List Tm → Bool
 | [] => true
 | t :: ts => vT t && J6 ts
end
theorem DY : ∀ ts, J6 ts = ts.all vT
 | [] => rfl
 | t :: ts => by simp [J6, DY ts]
theorem Gz : ∀ t : Tm, Ev (fun n => jv n t) (vT t) := Tm.ind fun op nm m ty ks ih => by
 refine Ev.succ ?_
 show Ev (fun n => l8 n (fun p0 => jv n p0) (.mk op nm m ty ks)) _
 unfold l8
 simp only [Tm.op, QJ, Option.bind_some, vT, DY]
 rw [show (op == 25 || (op == 26 || (op == 48 || (op == 49 || op == 54)))) = wL op from rfl]
 cases wL op with
 | true => exact Ev.ret _
 | false =>
  simp only [cond_false, Bool.not_false, Bool.true_and]
  have h := qh ks (fun n k i => nW n (fun p0 => jv n p0) (.mk op nm m ty ks) k i) (fun n x => (jv n x).bind fun b => some (!b)) (fun x => !(vT x)) false
   (fun n k i => by
    show cond _ _ _ = _
    congr 1
    show (idx ks i).bind _ = _
    congr 1
    funext x
    simp only [Option.bind_assoc, Option.bind_some])
   (fun x hx => Ev.bind (ih x hx) (Ev.ret _))
  rw [pV] at h
  refine Ev.bind h ?_
  cases ks.all vT
  ·exact Ev.ret _
  ·exact Ev.ret _
def OO (t : Tm) : Bool := jQ t && vT t
theorem GR (t : Tm) (ht : gU t) : Ev (fun n => p9 n t) (OO t) := by
 unfold p9 OO
 refine Ev.bind (a := jQ t && vT t) (Ev.bind (vQ t ht) ?_) (Ev.ret _)
 cases jQ t with
 | false => exact Ev.ret _
 | true => exact Ev.bind (Gz t) (Ev.ret _)
end Abs
end Go.Proofs.YtiiaccpcoclklaaGreat
namespace Go.Proofs.YtiiaccpcoclklaaGreat
namespace Abs
open Go
mutual
theorem MO : ∀ (t : Tm) (d c d' c' : Int), (mf t d c).1 = true → d' ≤ d → c' ≤ c → (mf t d' c').1 = true ∧ (mf t d' c').2 - c' = (mf t d c).2 - c
 | .mk op nm m ty ks, d, c, d', c', h, hd, hc => by
  simp only [mf] at h ⊢
  cases hb : ((decide (c + 1 ≤ 2000) && decide (d ≤ 64)) && mG (.mk op nm m ty ks)) with
  | false => rw [hb] at h; cases h
  | true =>
   rw [hb] at h
   simp only [Bool.and_eq_true, decide_eq_true_eq] at hb
   have e : ((decide (c' + 1 ≤ 2000) && decide (d' ≤ 64)) && mG (.mk op nm m ty ks)) = true := by
    rw [decide_eq_true (show c' + 1 ≤ 2000 by omega), decide_eq_true (show d' ≤ 64 by omega), hb.2]
    rfl
   rw [e]
   simp only [cond_true] at h ⊢
   have := KC ks (d + 1) (c + 1) (d' + 1) (c' + 1) h (by omega) (by omega)
   exact ⟨this.1, by omega⟩
theorem KC : ∀ (ts : List Tm) (d c d' c' : Int), (lT ts d c).1 = true → d' ≤ d → c' ≤ c → (lT ts d' c').1 = true ∧ (lT ts d' c').2 - c' = (lT ts d c).2 - c
 | [], _, _, _, _, _, _, _ => by simp only [lT]; exact ⟨trivial, by omega⟩
 | t :: ts, d, c, d', c', h, hd, hc => by
  simp only [lT] at h ⊢
  cases hb : (mf t d c).1 with
  | false => rw [hb] at h; cases h
  | true =>
   rw [hb] at h
   simp only [cond_true] at h ⊢
   have h1 := MO t d c d' c' hb hd hc
   rw [h1.1]
   simp only [cond_true]
   have h2 := KC ts d _ d' (mf t d' c').2 h hd (by omega)
   exact ⟨h2.1, by omega⟩
end
theorem Wf.valid {d : Int} {t : Tm} (h : Wf d t) (hd : 1 ≤ d) : jQ t = true := by
 obtain ⟨c, h0, h⟩ := h
 exact (MO t d c 1 0 h hd h0).1
def without (env : Env) (s : Str) : Env := ⟨env.carriers, env.names.filter fun d => !(d.name == s)⟩
end Abs
end Go.Proofs.YtiiaccpcoclklaaGreat
namespace Go.Proofs.YtiiaccpcoclklaaGreat
namespace Abs
open Go
theorem En : ∀ a b : Str, Op.bytesLess a b = true ↔ a < b
 | [], [] => by simp [Op.bytesLess]
 | [], b :: y => by simp [Op.bytesLess]
 | a :: x, [] => by simp [Op.bytesLess]
 | a :: x, b :: y => by
  simp only [Op.bytesLess, Bool.or_eq_true, decide_eq_true_eq, Bool.and_eq_true, beq_iff_eq, List.cons_lt_cons_iff, En x y]
theorem RL {a b c : Str} (h1 : Op.bytesLess a b = true) (h2 : Op.bytesLess b c = true) : Op.bytesLess a c = true :=
 (En a c).2 (List.lt_trans ((En a b).1 h1) ((En b c).1 h2))
theorem V9 {a b : Str} (h1 : Op.bytesLess a b = false) (h2 : Op.bytesLess b a = false) : a = b := by
 have k1 : ¬ a < b := fun h => by rw [(En a b).2 h] at h1; cases h1
 have k2 : ¬ b < a := fun h => by rw [(En b a).2 h] at h2; cases h2
 exact List.le_antisymm (List.not_lt.1 k2) (List.not_lt.1 k1)
def Asc (l : List Str) : Prop := l.Pairwise fun a b => Op.bytesLess a b = true
def uV (l : List Str) (x : Str) : List Str := (l.takeWhile fun a => Op.bytesLess a x) ++ (cond ((l.dropWhile fun a => Op.bytesLess a x).head? == some x) (l.dropWhile fun a => Op.bytesLess a x) (x :: l.dropWhile fun a => Op.bytesLess a x))
theorem Wy {l : List Str} {x a : Str} (h : a ∈ l.takeWhile fun a => Op.bytesLess a x) : Op.bytesLess a x = true := by
 have := List.all_takeWhile (p := fun a => Op.bytesLess a x) (l := l)
 rw [List.all_eq_true] at this
 exact this a h
theorem R4 (l : List Str) (x y : Str) : y ∈ uV l x ↔ y ∈ l ∨ y = x := by
 have hl : y ∈ l ↔ y ∈ (l.takeWhile fun a => Op.bytesLess a x) ∨ y ∈ (l.dropWhile fun a => Op.bytesLess a x) := by
  rw [← List.mem_append, List.takeWhile_append_dropWhile]
 unfold uV
 rw [List.mem_append, hl]
 cases hc : ((l.dropWhile fun a => Op.bytesLess a x).head? == some x) with
 | false =>
  simp only [cond_false, List.mem_cons]
  constructor
  ·rintro (h | h | h)
   ·exact .inl (.inl h)
   ·exact .inr h
   ·exact .inl (.inr h)
  ·rintro ((h | h) | h)
   ·exact .inl h
   ·exact .inr (.inr h)
   ·exact .inr (.inl h)
 | true =>
  simp only [cond_true]
  have hx : x ∈ (l.dropWhile fun a => Op.bytesLess a x) := by
   have e := eq_of_beq hc
   exact List.mem_of_mem_head? e
  constructor
  ·rintro (h | h)
   ·exact .inl (.inl h)
   ·exact .inl (.inr h)
  ·rintro ((h | h) | h)
   ·exact .inl h
   ·exact .inr h
   ·rw [h]; exact .inr hx
theorem SE {l : List Str} (hl : Asc l) {x a : Str} (h : a ∈ l.dropWhile fun a => Op.bytesLess a x) : Op.bytesLess a x = false := by
 induction l with
 | nil => cases h
 | cons b l ih =>
  have hb := List.pairwise_cons.1 hl
  rw [List.dropWhile_cons] at h
  cases hc : Op.bytesLess b x with
  | true => rw [hc, if_pos rfl] at h; exact ih hb.2 h
  | false =>
   rw [hc, if_neg (by decide)] at h
   rcases List.mem_cons.1 h with rfl | h
   ·exact hc
   ·cases ha : Op.bytesLess a x with
    | false => rfl
    | true => have := RL (hb.1 a h) ha; rw [hc] at this; cases this
theorem Rk {l : List Str} (hl : Asc l) (x : Str) : Asc (uV l x) := by
 have hsplit : Asc ((l.takeWhile fun a => Op.bytesLess a x) ++ l.dropWhile fun a => Op.bytesLess a x) := by
  rw [List.takeWhile_append_dropWhile]; exact hl
 unfold Asc at hsplit
 rw [List.pairwise_append] at hsplit
 obtain ⟨h1, h2, h3⟩ := hsplit
 unfold uV Asc
 rw [List.pairwise_append]
 cases hc : ((l.dropWhile fun a => Op.bytesLess a x).head? == some x) with
 | true => exact ⟨h1, h2, h3⟩
 | false =>
  simp only [cond_false]
  refine ⟨h1, List.pairwise_cons.2 ⟨fun a ha => ?_, h2⟩, fun a ha b hb => ?_⟩
  ·have hge := SE hl ha
   cases hxa : Op.bytesLess x a with
   | true => rfl
   | false =>
    exfalso
    have e := V9 hge hxa
    subst e
    -- a is in the rest, so it is its head
    cases hd : l.dropWhile fun b => Op.bytesLess b a with
    | nil => rw [hd] at ha; cases ha
    | cons b m =>
     rw [hd] at ha hc h2
     rcases List.mem_cons.1 ha with rfl | hm
     ·simp at hc
     ·have k := (List.pairwise_cons.1 h2).1 a hm
      have hb : b ∈ l.dropWhile fun b => Op.bytesLess b a := by rw [hd]; exact List.mem_cons_self ..
      rw [SE hl hb] at k
      cases k
  ·rcases List.mem_cons.1 hb with rfl | hb
   ·exact Wy ha
   ·exact h3 a ha b hb
theorem PW {α : Type} (P : List α) (y v : α) (R : List α) (i : Int) (h : i = (P.length : Int)) : upd (P ++ y :: R) i v = P ++ v :: R := by
 subst h
 unfold upd
 simp
theorem IC {α : Type} (P : List α) (y : α) (R : List α) (i : Int) (h : i = (P.length : Int)) : idx (P ++ y :: R) i = some y := by
 subst h
 exact zW P y R
theorem Jc (l : List Str) (e : Str) (k : Nat) (hl : l.length ≤ 1000000) : ∀ (d n f : Nat), k + d ≤ l.length → d + 1 ≤ f →
  lq n (k : Int) f ((l ++ [e]).take (k + d + 1) ++ l.drop (k + d), ((k + d : Nat) : Int)) = some (.nx ((l ++ [e]).take (k + 1) ++ l.drop k))
 | 0, n, f, hd, hf => by
  cases f with
  | zero => omega
  | succ f =>
   show cond (decide ((k : Int) < ((k + 0 : Nat) : Int))) _ _ = _
   rw [decide_eq_false (by omega)]
   rfl
 | d + 1, n, f, hd, hf => by
  cases f with
  | zero => omega
  | succ f =>
   show cond (decide ((k : Int) < ((k + (d + 1) : Nat) : Int))) _ _ = _
   rw [decide_eq_true (by omega)]
   simp only [cond_true]
   rw [wrap64 (by omega) (by omega)]
   have hj : k + d < l.length := by omega
   -- the list around the two places
   have e1 : (l ++ [e]).take (k + (d + 1) + 1) = (l ++ [e]).take (k + d) ++ [l[k + d]] ++ [(l ++ [e])[k + d + 1]'(by simp; omega)] := by
    rw [show k + (d + 1) + 1 = (k + d + 1) + 1 from by omega, List.take_succ_eq_append_getElem (by simp; omega), List.take_succ_eq_append_getElem (by simp; omega)]
    rw [List.getElem_append_left hj]
   have hlen : ((l ++ [e]).take (k + d)).length = k + d := by simp; omega
   have hi : idx ((l ++ [e]).take (k + (d + 1) + 1) ++ l.drop (k + (d + 1))) (((k + (d + 1) : Nat) : Int) - 1) = some l[k + d] := by
    rw [e1, List.append_assoc, List.append_assoc]
    exact IC _ _ _ _ (by rw [hlen]; omega)
   have hi2 : idx ((l ++ [e]).take (k + (d + 1) + 1) ++ l.drop (k + (d + 1))) ((k + (d + 1) : Nat) : Int) = some ((l ++ [e])[k + d + 1]'(by simp; omega)) := by
    rw [e1, List.append_assoc]
    exact IC _ _ _ _ (by simp; omega)
   rw [hi, hi2]
   simp only [Option.bind_some]
   have hu : upd ((l ++ [e]).take (k + (d + 1) + 1) ++ l.drop (k + (d + 1))) ((k + (d + 1) : Nat) : Int) l[k + d] = (l ++ [e]).take (k + d + 1) ++ l.drop (k + d) := by
    rw [e1, List.append_assoc]
    have := PW ((l ++ [e]).take (k + d) ++ [l[k + d]]) ((l ++ [e])[k + d + 1]'(by simp; omega)) l[k + d] (l.drop (k + (d + 1))) ((k + (d + 1) : Nat) : Int) (by simp; omega)
    simp only [List.singleton_append] at this ⊢
    rw [this]
    rw [List.take_succ_eq_append_getElem (by simp; omega), List.getElem_append_left hj, List.drop_eq_getElem_cons hj]
    rfl
   rw [hu]
   have e3 : ((k + (d + 1) : Nat) : Int) - 1 = ((k + d : Nat) : Int) := by omega
   rw [e3]
   exact Jc l e k hl d n f (by omega) (by omega)
theorem Kz (p0 : List Str) (out : List Str) (i : Int) (x : Str) (hx : idx p0 i = some x) (hl : out.length ≤ 1000000) : ∀ (suf pre : List Str) (n f : Nat), out = pre ++ suf → suf.length + 1 ≤ f →
  lD n p0 (out, i) f (pre.length : Int) = some (.nx ((pre.length : Int) + ((suf.takeWhile fun a => Op.bytesLess a x).length : Int)))
 | [], pre, n, f, ho, hf => by
  cases f with
  | zero => omega
  | succ f =>
   show Option.bind (cond (decide ((pre.length : Int) < (out.length : Int))) _ _) _ = _
   rw [decide_eq_false (by rw [ho]; simp)]
   simp
 | a :: suf, pre, n, f, ho, hf => by
  cases f with
  | zero => omega
  | succ f =>
   show Option.bind (cond (decide ((pre.length : Int) < (out.length : Int))) ((idx out (pre.length : Int)).bind _) _) _ = _
   rw [decide_eq_true (by rw [ho]; simp; omega)]
   have hi : idx out (pre.length : Int) = some a := by rw [ho]; exact zW pre a suf
   rw [hi]
   simp only [cond_true, Option.bind_some, hx]
   rw [List.takeWhile_cons]
   cases hb : Op.bytesLess a x with
   | false => simp
   | true =>
    simp only [cond_true, if_true]
    have hle : pre.length + 1 ≤ 1000000 := by rw [ho] at hl; simp at hl; omega
    rw [wrap64 (by omega) (by omega)]
    have := Kz p0 out i x hx hl suf (pre ++ [a]) n f (by rw [ho]; simp) (by simp at hf; omega)
    simp only [List.length_append, List.length_singleton, Int.natCast_add, Int.natCast_one] at this
    rw [this]
    simp only [List.length_cons, Int.natCast_add, Int.natCast_one]
    congr 2
    omega
theorem UU (l : List Str) (x : Str) : l.take (l.takeWhile fun a => Op.bytesLess a x).length = l.takeWhile fun a => Op.bytesLess a x := by
 have h := List.takeWhile_append_dropWhile (p := fun a => Op.bytesLess a x) (l := l)
 generalize (l.takeWhile fun a => Op.bytesLess a x) = A at h ⊢
 rw [← h, List.take_left']
 rfl
theorem Ns (l : List Str) (x : Str) : l.drop (l.takeWhile fun a => Op.bytesLess a x).length = l.dropWhile fun a => Op.bytesLess a x := by
 have h := List.takeWhile_append_dropWhile (p := fun a => Op.bytesLess a x) (l := l)
 generalize (l.takeWhile fun a => Op.bytesLess a x) = A at h ⊢
 generalize (l.dropWhile fun a => Op.bytesLess a x) = B at h ⊢
 rw [← h, List.drop_left']
 rfl
theorem UY (p0 out : List Str) (i : Int) (x : Str) (hx : idx p0 i = some x) (hl : out.length ≤ 10000) : Ev (fun n => ((lD n p0 (out, i) n 0).bind (LR.el (fun (s5 : Int) => (((cond (decide (s5 < (out.length : Int))) ((idx out s5).bind fun (x6 : Str) => ((idx p0 i).bind fun (x7 : Str) => some (x6 == x7))) (some false)) : Option Bool).bind fun (s6 : Bool) => (cond s6 (some out) ((app 16 out ([([] : Str)])).bind fun (x1 : List Str) => ((lq n s5 n (x1, (IntKind.wrap .i64 ((x1.length : Int) - 1)))).bind (LR.el (fun (s8 : List Str) => ((idx p0 i).bind fun (x2 : Str) => ((idx s8 s5).bind fun (x3 : Str) => some (upd s8 s5 x2)))) (fun _ => none))))))) (fun _ => none)))) (uV out x) := by
 have h2 : Ev (fun n => lD n p0 (out, i) n 0) (.nx ((out.takeWhile fun a => Op.bytesLess a x).length : Int)) := ⟨out.length + 1, fun n hn => by
  have := Kz p0 out i x hx (by omega) out [] n n rfl hn
  simpa using this⟩
 refine Ev.bind h2 ?_
 simp only [LR.el, hx, Option.bind_some]
 have hle : (out.takeWhile fun a => Op.bytesLess a x).length ≤ out.length := by
  have h := List.takeWhile_append_dropWhile (p := fun a => Op.bytesLess a x) (l := out)
  have := congrArg List.length h
  simp only [List.length_append] at this
  omega
 refine Ev.bind (a := ((out.dropWhile fun a => Op.bytesLess a x).head? == some x)) ?_ ?_
 ·refine Ev.of fun n => ?_
  rw [← Ns out x]
  by_cases hk : (out.takeWhile fun a => Op.bytesLess a x).length < out.length
  ·rw [decide_eq_true (by omega)]
   have hi : idx out ((out.takeWhile fun a => Op.bytesLess a x).length : Int) = some (out[(out.takeWhile fun a => Op.bytesLess a x).length]) := by
    unfold idx
    rw [if_pos (by omega)]
    simp
   rw [hi, List.drop_eq_getElem_cons hk]
   simp only [cond_true, Option.bind_some, List.head?_cons]
   rfl
  ·rw [decide_eq_false (by omega), List.drop_eq_nil_of_le (by omega)]
   rfl
 ·unfold uV
  cases hc : ((out.dropWhile fun a => Op.bytesLess a x).head? == some x) with
  | true =>
   simp only [cond_true, List.takeWhile_append_dropWhile]
   exact Ev.ret _
  | false =>
   simp only [cond_false]
   rw [pq (by simp; omega) (by omega)]
   simp only [Option.bind_some]
   have h1 : Ev (fun n => lq n ((out.takeWhile fun a => Op.bytesLess a x).length : Int) n (out ++ [([] : Str)], IntKind.wrap .i64 (((out ++ [([] : Str)]).length : Int) - 1))) (.nx ((out ++ [([] : Str)]).take ((out.takeWhile fun a => Op.bytesLess a x).length + 1) ++ out.drop (out.takeWhile fun a => Op.bytesLess a x).length)) := ⟨out.length + 1, fun n hn => by
    have := Jc out [] (out.takeWhile fun a => Op.bytesLess a x).length (by omega) (out.length - (out.takeWhile fun a => Op.bytesLess a x).length) n n (by omega) (by omega)
    have e : (out.takeWhile fun a => Op.bytesLess a x).length + (out.length - (out.takeWhile fun a => Op.bytesLess a x).length) = out.length := by omega
    rw [e, List.drop_length, List.append_nil, List.take_of_length_le (by simp)] at this
    have e2 : ((out ++ [([] : Str)]).length : Int) - 1 = (out.length : Int) := by simp
    rw [e2, wrap64 (by omega) (by omega)]
    exact this⟩
   refine Ev.bind h1 ?_
   have e3 : (out ++ [([] : Str)]).take ((out.takeWhile fun a => Op.bytesLess a x).length + 1) = (out.takeWhile fun a => Op.bytesLess a x) ++ [(out ++ [([] : Str)])[(out.takeWhile fun a => Op.bytesLess a x).length]'(by simp; omega)] := by
    rw [List.take_succ_eq_append_getElem (by simp; omega), List.take_append_of_le_length hle, UU]
   rw [e3, Ns, List.append_assoc]
   simp only [LR.el, List.singleton_append]
   rw [IC _ _ _ _ rfl]
   simp only [Option.bind_some]
   rw [PW _ _ _ _ _ rfl]
   exact Ev.ret _
def Gq (l : List Str) : List Str := l.foldl uV []
theorem RA (l : List Str) (x : Str) : (uV l x).length ≤ l.length + 1 := by
 have h := congrArg List.length (List.takeWhile_append_dropWhile (p := fun a => Op.bytesLess a x) (l := l))
 simp only [List.length_append] at h
 unfold uV
 cases ((l.dropWhile fun a => Op.bytesLess a x).head? == some x) <;> simp <;> omega
theorem Jo {α σ ρ : Type} (f : σ → α → σ) : ∀ (l : List α) (i : Int) (s : σ), kU (ρ := ρ) (fun _ x s => .nx (f s x)) (fun s => s) i l s = .nx (l.foldl f s)
 | [], _, _ => rfl
 | x :: l, i, s => Jo f l (i + 1) (f s x)
theorem Pv (l : List Str) (hl : l.length ≤ 5000) : Ev (fun n => vD n l) (Gq l) := by
 unfold vD
 have h := Oj (ρ := List Str) l (fun n k i (s : List Str) => qj n l k (s, i))
  (fun n i _ out => (((lD n l (out, i) n 0).bind (LR.el (fun (s5 : Int) => (((cond (decide (s5 < (out.length : Int))) ((idx out s5).bind fun (x6 : Str) => ((idx l i).bind fun (x7 : Str) => some (x6 == x7))) (some false)) : Option Bool).bind fun (s6 : Bool) => (cond s6 (some out) ((app 16 out ([([] : Str)])).bind fun (x1 : List Str) => ((lq n s5 n (x1, (IntKind.wrap .i64 ((x1.length : Int) - 1)))).bind (LR.el (fun (s8 : List Str) => ((idx l i).bind fun (x2 : Str) => ((idx s8 s5).bind fun (x3 : Str) => some (upd s8 s5 x2)))) (fun _ => none))))))) (fun _ => none))) : Option (List Str)).bind fun s3 => some (.nx s3))
  (fun _ x s => .nx (uV s x)) (fun s => s) (fun _ suf s => s.length + suf.length ≤ 5000)
  (fun n k s => by
   show cond (decide ((l.length : Int) < (l.length : Int))) _ _ = _
   rw [decide_eq_false (by omega)]
   rfl)
  (fun n k i x s hx hi => by
   show cond (decide (i < (l.length : Int))) _ _ = _
   rw [hi]
   simp only [cond_true]
   conv => rhs; rw [Option.bind_assoc]
   rfl)
  (fun i x suf s hx hI hidx => by
   simp only [List.length_cons] at hI
   refine ⟨Ev.bind (UY l s i x hidx (by omega)) (Ev.ret _), fun s' hs' => ?_⟩
   cases hs'
   have := RA s x
   omega) (s0 := []) (by simp; omega)
 rw [Jo] at h
 exact Ev.bind h (Ev.ret _)
theorem GN (l : List Str) : Asc (Gq l) ∧ ∀ x, x ∈ Gq l ↔ x ∈ l := by
 have key : ∀ (l s : List Str), Asc s → Asc (l.foldl uV s) ∧ ∀ x, x ∈ l.foldl uV s ↔ x ∈ s ∨ x ∈ l := by
  intro l
  induction l with
  | nil => intro s hs; exact ⟨hs, fun x => by simp⟩
  | cons a l ih =>
   intro s hs
   obtain ⟨h1, h2⟩ := ih (uV s a) (Rk hs a)
   refine ⟨h1, fun x => ?_⟩
   rw [List.foldl_cons, h2, R4, List.mem_cons]
   constructor
   ·rintro ((h | h) | h)
    ·exact .inl h
    ·exact .inr (.inl h)
    ·exact .inr (.inr h)
   ·rintro (h | h | h)
    ·exact .inl (.inl h)
    ·exact .inl (.inr h)
    ·exact .inr h
 obtain ⟨h1, h2⟩ := key l [] List.Pairwise.nil
 exact ⟨h1, fun x => by unfold Gq; rw [h2]; simp⟩
end Abs
end Go.Proofs.YtiiaccpcoclklaaGreat
namespace Go.Proofs.YtiiaccpcoclklaaGreat
namespace Abs
open Go
mutual
theorem IX : ∀ (t : Ty) (d c d' c' : Int), (pf t d c).1 = true → d' ≤ d → c' ≤ c → (pf t d' c').1 = true ∧ (pf t d' c').2 - c' = (pf t d c).2 - c
 | .mk k nm ks, d, c, d', c', h, hd, hc => by
  simp only [pf] at h ⊢
  cases hb : ((decide (c + 1 ≤ 16) && decide (d ≤ 6)) && eu k nm ks.length d) with
  | false => rw [hb] at h; cases h
  | true =>
   rw [hb] at h
   simp only [Bool.and_eq_true, decide_eq_true_eq] at hb
   have hh : eu k nm ks.length d' = true := by
    have h2 := hb.2
    simp only [eu, Bool.and_eq_true, Bool.not_eq_true', Bool.and_eq_false_iff, decide_eq_false_iff_not, beq_eq_false_iff_ne] at h2 ⊢
    refine ⟨?_, h2.2⟩
    rcases h2.1 with h2 | h2
    ·exact .inl h2
    ·exact .inr (by omega)
   rw [decide_eq_true (show c' + 1 ≤ 16 by omega), decide_eq_true (show d' ≤ 6 by omega), hh]
   simp only [Bool.and_self, cond_true] at h ⊢
   have := Kr ks (d + 1) (c + 1) (d' + 1) (c' + 1) h (by omega) (by omega)
   exact ⟨this.1, by omega⟩
theorem Kr : ∀ (ts : List Ty) (d c d' c' : Int), (iO ts d c).1 = true → d' ≤ d → c' ≤ c → (iO ts d' c').1 = true ∧ (iO ts d' c').2 - c' = (iO ts d c).2 - c
 | [], _, _, _, _, _, _, _ => by simp only [iO]; exact ⟨trivial, by omega⟩
 | t :: ts, d, c, d', c', h, hd, hc => by
  simp only [iO] at h ⊢
  cases hb : (pf t d c).1 with
  | false => rw [hb] at h; cases h
  | true =>
   rw [hb] at h
   simp only [cond_true] at h ⊢
   have h1 := IX t d c d' c' hb hd hc
   rw [h1.1]
   simp only [cond_true]
   have h2 := Kr ts d _ d' (pf t d' c').2 h hd (by omega)
   exact ⟨h2.1, by omega⟩
end
theorem Jq {t : Ty} {d c : Int} (h : (pf t d c).1 = true) (hd : 2 ≤ d) (hc : 1 ≤ c) : bV (bq t) = true := by
 have h1 := (IX t d c 2 1 h hd hc).1
 unfold bV
 show (pf (.mk 5 [] [t]) 1 0).1 = true
 simp only [pf, iO]
 show (cond _ _ _ : Bool × Int).1 = true
 simp only [show ((decide ((0 : Int) + 1 ≤ 16) && decide ((1 : Int) ≤ 6)) && eu 5 [] [t].length 1) = true from rfl, cond_true]
 have e1 : (1 : Int) + 1 = 2 := rfl
 have e0 : (0 : Int) + 1 = 1 := rfl
 rw [e1, e0, h1]
 rfl
end Abs
end Go.Proofs.YtiiaccpcoclklaaGreat
namespace Go.Proofs.YtiiaccpcoclklaaGreat
namespace Abs
open Go
theorem rA (p q : Tm) : ((fV p q).op == 1) = ((p.op == 1) && (q.op == 1)) := by
 unfold fV
 cases hp : p.op == 1 with
 | true => rfl
 | false =>
  cases hq : q.op == 1 with
  | true => simp only [cond_false, cond_true, hp, Bool.false_and]
  | false => rfl
theorem KY {op : Int} (h : (op == 1) = false) (p q : Tm) : ((oV op p q).op == 1) = (q.op == 1) := by
 unfold oV
 cases hq : q.op == 1 with
 | true => simp only [cond_true, hq]
 | false => exact h
theorem Qo (nm : Str) (p q : Tm) : ((allT nm p q).op == 1) = (q.op == 1) := by
 unfold allT
 cases hq : q.op == 1 with
 | true => simp only [cond_true, hq]
 | false => rfl
theorem MN : ∀ (l : List Tm) (s : Tm), ((l.foldl fV s).op == 1) = ((s.op == 1) && l.all fun d => d.op == 1)
 | [], s => by simp
 | d :: l, s => by
  rw [List.foldl_cons, MN l (fV s d), rA, List.all_cons, Bool.and_assoc]
theorem Nq (op : Int) (ks : List Tm) (d : Tm) : ((sW op ks d).op == 1) = (!(wL op) && d.op == 1) := by
 unfold sW wL
 cases op == 25 with
 | true => rw [cond_true, rA]; cases d.op == 1 <;> rfl
 | false =>
  cases op == 26 with
  | true => rw [cond_false, cond_true, rA]; cases (fV d (fH 13 [xG 0, og ks])).op == 1 <;> rfl
  | false =>
   cases op == 48 with
   | true => simp only [cond_false, Bool.true_or, cond_true, rA]; cases d.op == 1 <;> rfl
   | false =>
    cases op == 49 with
    | true => simp only [cond_false, Bool.false_or, cond_true, rA]; cases d.op == 1 <;> rfl
    | false =>
     cases op == 54 with
     | true => simp only [cond_false, Bool.or_self, cond_true, rA]; cases d.op == 1 <;> rfl
     | false => rfl
theorem WA : ∀ t : Tm, ∀ d : Int, Wf d t → ((dA t).op == 1) = vT t := Tm.ind fun op nm m ty ks ih d hw => by
 obtain ⟨hnode, _, hks, hkw⟩ := hw.node
 obtain ⟨hop, _, _, hlen, hbk⟩ := sK hnode
 have two : bY op = 2 → ∃ a b, ks = [a, b] := fun h => by
  have hl := (hlen (ks.map fun _ => bM) (by simp)).two h
  exact dS ks (by simpa using hl)
 have ihk : ∀ u ∈ ks, ((dA u).op == 1) = vT u := fun u hu => ih u hu (d + 1) (hkw u hu)
 simp only [dA, Bg, qB, vT, DY]
 cases h46 : (op == 4 || op == 6) with
 | true =>
  have hk : bY op = 2 ∧ wL op = false := by
   simp only [Bool.or_eq_true, beq_iff_eq] at h46
   rcases h46 with rfl | rfl <;> exact ⟨rfl, rfl⟩
  obtain ⟨a, b, rfl⟩ := two hk.1
  rw [cond_true, rA, KY rfl, hk.2]
  show ((dA a).op == 1 && (dA b).op == 1) = _
  rw [ihk a (by simp), ihk b (by simp)]
  simp
 | false =>
  rw [cond_false]
  cases h5 : (op == 5) with
  | true =>
   have hk : bY op = 2 ∧ wL op = false := by
    simp only [beq_iff_eq] at h5
    subst h5; exact ⟨rfl, rfl⟩
   obtain ⟨a, b, rfl⟩ := two hk.1
   rw [cond_true, rA, KY rfl, hk.2]
   show ((dA a).op == 1 && (dA b).op == 1) = _
   rw [ihk a (by simp), ihk b (by simp)]
   simp
  | false =>
   rw [cond_false]
   cases hb : bN op with
   | true =>
    obtain ⟨a, b, rfl⟩ := hbk hb
    have hp : wL op = false := by
     simp only [bN, Bool.or_eq_true, beq_iff_eq] at hb
     rcases hb with rfl | rfl | rfl | rfl <;> rfl
    rw [cond_true, rA, Qo, hp]
    show ((dA a).op == 1 && (dA b).op == 1) = _
    rw [ihk a (by simp), ihk b (by simp)]
    simp
   | false =>
    rw [cond_false, Nq, MN]
    have : ((ks.map dA).all fun d => d.op == 1) = ks.all vT := by
     rw [List.all_map]
     rw [Bool.eq_iff_iff, List.all_eq_true, List.all_eq_true]
     exact ⟨fun h u hu => by rw [← ihk u hu]; exact h u hu, fun h u hu => by show ((dA u).op == 1) = true; rw [ihk u hu]; exact h u hu⟩
    rw [this]
    rfl
def Bb (sc : List Decl) : Prop := ∀ d ∈ sc, Good d.ty ∧ bV d.ty = true
theorem Bb.g {sc : List Decl} (h : Bb sc) : GoodS sc := fun d hd => (h d hd).1
theorem OB {e : Ty} (h : bV (bq e) = true) : bV e = true := by
 unfold bV at h
 have h' : (pf (.mk 5 [] [e]) 1 0).1 = true := h
 simp only [pf, iO] at h'
 cases hp : (pf e (1 + 1) (0 + 1)).1 with
 | false =>
  rw [hp] at h'
  cases hc : ((decide ((0 : Int) + 1 ≤ 16) && decide ((1 : Int) ≤ 6)) && eu 5 [] [e].length 1) with
  | false => rw [hc] at h'; cases h'
  | true => rw [hc] at h'; cases h'
 | true => exact (IX e _ _ 1 0 hp (by omega) (by omega)).1
theorem O1 {a b : Ty} (h : bV (bq (dJ a b)) = true) : bV (bq a) = true ∧ bV (bq b) = true := by
 unfold bV at h
 have h' : (pf (.mk 5 [] [.mk 4 [] [a, b]]) 1 0).1 = true := h
 simp only [pf, iO] at h'
 cases hc : ((decide ((0 : Int) + 1 ≤ 16) && decide ((1 : Int) ≤ 6)) && eu 5 [] [Ty.mk 4 [] [a, b]].length 1) with
 | false => rw [hc] at h'; cases h'
 | true =>
  rw [hc] at h'
  simp only [cond_true] at h'
  cases hc2 : ((decide ((0 : Int) + 1 + 1 ≤ 16) && decide ((1 : Int) + 1 ≤ 6)) && eu 4 [] [a, b].length (1 + 1)) with
  | false => rw [hc2] at h'; cases h'
  | true =>
   rw [hc2] at h'
   simp only [cond_true] at h'
   cases hpa : (pf a (1 + 1 + 1) (0 + 1 + 1)).1 with
   | false => rw [hpa] at h'; cases h'
   | true =>
    rw [hpa] at h'
    simp only [cond_true] at h'
    have hle := AL a _ _ hpa
    cases hpb : (pf b (1 + 1 + 1) (pf a (1 + 1 + 1) (0 + 1 + 1)).2).1 with
    | false => rw [hpb] at h'; cases h'
    | true => exact ⟨Jq hpa (by omega) (by omega), Jq hpb (by omega) (by omega)⟩
theorem JC {nm : Str} (h : ident nm = true) : bV (vE nm) = true ∧ bV (bq (vE nm)) = true := by
 constructor
 ·unfold bV
  show (pf (.mk 3 nm []) 1 0).1 = true
  simp only [pf, iO]
  have hh : eu 3 nm ([] : List Ty).length 1 = true := by
   show (true && (true && ident nm)) = true
   rw [h]; rfl
  rw [hh]
  rfl
 ·unfold bV
  show (pf (.mk 5 [] [.mk 3 nm []]) 1 0).1 = true
  simp only [pf, iO]
  have hh : eu 3 nm ([] : List Ty).length (1 + 1) = true := by
   show (true && (true && ident nm)) = true
   rw [h]; rfl
  rw [hh]
  rfl
theorem OH {env : Env} (h : eD env = true) {s : Str} {t : Ty} (ht : look env s = some t) : bV t = true := by
 rw [Kh h] at ht
 unfold qy at ht
 rcases List.mem_append.1 ht with ht | ht
 ·obtain ⟨c, hc, ht⟩ := List.mem_flatMap.1 ht
  have hid := (D7 h hc).1
  unfold jK at ht
  rcases List.mem_cons.1 ht with ht | ht
  ·cases ht; exact (JC hid).2
  ·obtain ⟨e, _, he⟩ := List.mem_map.1 ht
   cases he; exact (JC hid).1
 ·obtain ⟨d, hd, he⟩ := List.mem_map.1 ht
  cases he
  exact (G8 h hd).2.1
theorem GJ {env : Env} (h : eD env = true) {t : Tm} {sc : List Decl} (hs : Bb sc) {ty : Ty} (ht : bE env sc t = .ok ty) : bV ty = true := by
 obtain ⟨op, nm, m, u, ks⟩ := t
 simp only [bE] at ht
 cases h20 : (op == 20) with
 | true =>
  rw [h20] at ht
  simp only [cond_true] at ht
  cases hl : wN env sc nm with
  | none => rw [hl] at ht; cases ht
  | some t =>
   rw [hl] at ht
   cases ht
   unfold wN at hl
   cases hf : sc.find? (fun d => d.name == nm) with
   | some d => rw [hf] at hl; cases hl; exact (hs d (List.mem_of_find?_eq_some hf)).2
   | none => rw [hf] at hl; exact OH h hl
 | false =>
  rw [h20] at ht
  simp only [cond_false] at ht
  cases h29 : (op == 29 && !(knows env u)) with
  | true => rw [h29] at ht; cases ht
  | false =>
   rw [h29] at ht
   simp only [cond_false] at ht
   cases hk : gL env sc (bN op) nm 0 ks with
   | er e p => rw [hk] at ht; cases ht
   | ok l => rw [hk] at ht; exact (Im ht).2
end Abs
end Go.Proofs.YtiiaccpcoclklaaGreat
namespace Go.Proofs.YtiiaccpcoclklaaGreat
namespace Abs
open Go
theorem Eh {p q : Tm} (hp : (p.op == 1) = true → p = mM) (hq : (q.op == 1) = true → q = mM) (h : ((fV p q).op == 1) = true) : fV p q = mM := by
 rw [rA, Bool.and_eq_true] at h
 unfold fV
 rw [h.1, cond_true]
 exact hq h.2
theorem Ny {op : Int} (ho : (op == 1) = false) {p q : Tm} (hq : (q.op == 1) = true → q = mM) (h : ((oV op p q).op == 1) = true) : oV op p q = mM := by
 rw [KY ho] at h
 unfold oV
 rw [h, cond_true]
 exact hq h
theorem Tp {nm : Str} {p q : Tm} (hq : (q.op == 1) = true → q = mM) (h : ((allT nm p q).op == 1) = true) : allT nm p q = mM := by
 rw [Qo] at h
 unfold allT
 rw [h, cond_true]
 exact hq h
theorem Ke : ∀ {l : List Tm} {s : Tm}, ((s.op == 1) = true → s = mM) → (∀ d ∈ l, (d.op == 1) = true → d = mM) → ((l.foldl fV s).op == 1) = true → l.foldl fV s = mM
 | [], s, hs, _, h => hs h
 | d :: l, s, hs, hd, h => Ke (s := fV s d) (Eh hs (hd d (by simp))) (fun e he => hd e (by simp [he])) h
theorem Ro {op : Int} {ks : List Tm} {d : Tm} (h : ((sW op ks d).op == 1) = true) : sW op ks d = d := by
 have h' := h
 rw [Nq, Bool.and_eq_true] at h'
 have hp := h'.1
 unfold sW
 simp only [wL, Bool.not_eq_true', Bool.or_eq_false_iff] at hp
 rw [hp.1, hp.2.1, hp.2.2.1, hp.2.2.2.1, hp.2.2.2.2]
 rfl
theorem Nk : ∀ t : Tm, ∀ d : Int, Wf d t → ((dA t).op == 1) = true → dA t = mM := Tm.ind fun op nm m ty ks ih d hw h => by
 obtain ⟨hnode, _, hks, hkw⟩ := hw.node
 obtain ⟨hop, _, _, hlen, hbk⟩ := sK hnode
 have two : bY op = 2 → ∃ a b, ks = [a, b] := fun h => by
  have hl := (hlen (ks.map fun _ => bM) (by simp)).two h
  exact dS ks (by simpa using hl)
 have ihk : ∀ u ∈ ks, ((dA u).op == 1) = true → dA u = mM := fun u hu => ih u hu (d + 1) (hkw u hu)
 simp only [dA, Bg, qB] at h ⊢
 cases h46 : (op == 4 || op == 6) with
 | true =>
  rw [h46, cond_true] at h
  rw [cond_true]
  have hk : bY op = 2 := by
   simp only [Bool.or_eq_true, beq_iff_eq] at h46
   rcases h46 with rfl | rfl <;> rfl
  obtain ⟨a, b, rfl⟩ := two hk
  exact Eh (ihk a (by simp)) (Ny rfl (ihk b (by simp))) h
 | false =>
  rw [h46, cond_false] at h
  rw [cond_false]
  cases h5 : (op == 5) with
  | true =>
   rw [h5, cond_true] at h
   rw [cond_true]
   have hk : bY op = 2 := by
    simp only [beq_iff_eq] at h5
    subst h5; rfl
   obtain ⟨a, b, rfl⟩ := two hk
   exact Eh (ihk a (by simp)) (Ny rfl (ihk b (by simp))) h
  | false =>
   rw [h5, cond_false] at h
   rw [cond_false]
   cases hb : bN op with
   | true =>
    rw [hb, cond_true] at h
    rw [cond_true]
    obtain ⟨a, b, rfl⟩ := hbk hb
    exact Eh (ihk a (by simp)) (Tp (ihk b (by simp))) h
   | false =>
    rw [hb, cond_false] at h
    rw [cond_false]
    have e := Ro h
    rw [e] at h ⊢
    exact Ke (fun _ => rfl) (fun d hd => by
     obtain ⟨u, hu, rfl⟩ := List.mem_map.1 hd
     exact ihk u hu) h
section
variable {env : Env} {sc : List Decl}
theorem oN {op : Int} (h20 : (op == 20) = false) (h29 : (op == 29) = false) (hb : bN op = false) {a b : Tm} {ta tb : Ty} (ha : bE env sc a = .ok ta) (hb' : bE env sc b = .ok tb) : bE env sc (fH op [a, b]) = sw (KH op [ta, tb]) := by
 show bE env sc (.mk op [] 0 bM [a, b]) = _
 simp only [bE, gL, h20, h29, hb, Bool.false_and, cond_false, ha, hb', nV]
theorem Fz {op : Int} (h20 : (op == 20) = false) (h29 : (op == 29) = false) (hb : bN op = false) {a : Tm} {ta : Ty} (ha : bE env sc a = .ok ta) : bE env sc (fH op [a]) = sw (KH op [ta]) := by
 show bE env sc (.mk op [] 0 bM [a]) = _
 simp only [bE, gL, h20, h29, hb, Bool.false_and, cond_false, ha, nV]
theorem Gr : bE env sc mM = .ok dn := by
 show bE env sc (.mk 1 [] 0 bM []) = _
 simp only [bE, gL]
 rfl
theorem CW (m : Int) : bE env sc (xG m) = .ok j6 := by
 show bE env sc (.mk 19 [] m bM []) = _
 simp only [bE, gL]
 rfl
theorem tV {p q : Tm} (hp : bE env sc p = .ok dn) (hq : bE env sc q = .ok dn) : bE env sc (fV p q) = .ok dn := by
 unfold fV
 cases p.op == 1 with
 | true => exact hq
 | false =>
  cases q.op == 1 with
  | true => exact hp
  | false => rw [cond_false, cond_false, oN rfl rfl rfl hp hq]; rfl
theorem Vl {p q : Tm} (hp : bE env sc p = .ok dn) (hq : bE env sc q = .ok dn) : bE env sc (oV 6 p q) = .ok dn := by
 unfold oV
 cases q.op == 1 with
 | true => exact hq
 | false => rw [cond_false, oN rfl rfl rfl hp hq]; rfl
theorem Xe {p q : Tm} (hp : bE env sc p = .ok dn) (hq : bE env sc q = .ok dn) : bE env sc (oV 5 p q) = .ok dn := by
 unfold oV
 cases q.op == 1 with
 | true => exact hq
 | false => rw [cond_false, oN rfl rfl rfl hp hq]; rfl
theorem Vx {nm : Str} {dm q : Tm} {e : Ty} (hd : bE env sc dm = .ok (bq e)) (hq : bE env (⟨nm, e⟩ :: sc) q = .ok dn) (ht : (q.op == 1) = true → q = mM) : bE env sc (allT nm dm q) = .ok dn := by
 unfold allT
 cases h : q.op == 1 with
 | true => rw [cond_true, ht h]; exact Gr
 | false =>
  rw [cond_false]
  simp only [bE, gL, show ((8 : Int) == 20) = false from rfl, show ((8 : Int) == 29) = false from rfl, show bN 8 = true from rfl, Bool.false_and, cond_false, hd, nV, cond_true, F3, Option.map_some, hq]
  rfl
theorem NK : ∀ {l : List Tm} {s : Tm}, bE env sc s = .ok dn → (∀ d ∈ l, bE env sc d = .ok dn) → bE env sc (l.foldl fV s) = .ok dn
 | [], _, hs, _ => hs
 | d :: l, s, hs, hd => NK (s := fV s d) (tV hs (hd d (by simp))) fun e he => hd e (by simp [he])
theorem LP : ∀ {ks : List Tm} {nm : Str} {i : Int} {l : List Ty}, gL env sc false nm i ks = .ok l → ∀ k ∈ ks, ∃ t, bE env sc k = .ok t
 | [], _, _, _, _, k, hk => by cases hk
 | u :: ks, nm, i, l, h, k, hk => by
  simp only [gL] at h
  cases hu : bE env sc u with
  | er e p => rw [hu] at h; cases h
  | ok ty =>
   rw [hu] at h
   simp only [nV, cond_false] at h
   rcases List.mem_cons.1 hk with rfl | hk
   ·exact ⟨ty, hu⟩
   ·cases hr : gL env sc false nm (i + 1) ks with
    | er e p => rw [hr] at h; cases h
    | ok l' => exact LP hr k hk
theorem xq {a b : Tm} {nm : Str} {i : Int} {l : List Ty} (h : gL env sc false nm i [a, b] = .ok l) : ∃ ta tb, bE env sc a = .ok ta ∧ bE env sc b = .ok tb ∧ l = [ta, tb] := by
 simp only [gL] at h
 cases ha : bE env sc a with
 | er e p => rw [ha] at h; cases h
 | ok ta =>
  rw [ha] at h
  simp only [nV, cond_false] at h
  cases hb : bE env sc b with
  | er e p => rw [hb] at h; cases h
  | ok tb => rw [hb] at h; cases h; exact ⟨ta, tb, rfl, rfl, rfl⟩
theorem Sg {a : Tm} {nm : Str} {i : Int} {l : List Ty} (h : gL env sc false nm i [a] = .ok l) : ∃ ta, bE env sc a = .ok ta ∧ l = [ta] := by
 simp only [gL] at h
 cases ha : bE env sc a with
 | er e p => rw [ha] at h; cases h
 | ok ta => rw [ha] at h; cases h; exact ⟨ta, rfl, rfl⟩
theorem Qj {a b : Tm} {nm : Str} {i : Int} {l : List Ty} (h : gL env sc true nm i [a, b] = .ok l) : ∃ ta e tb, bE env sc a = .ok ta ∧ cu ta = some e ∧ bE env (⟨nm, e⟩ :: sc) b = .ok tb ∧ l = [ta, tb] := by
 simp only [gL] at h
 cases ha : bE env sc a with
 | er e p => rw [ha] at h; cases h
 | ok ta =>
  rw [ha] at h
  simp only [nV, cond_true] at h
  cases hs : cu ta with
  | none => rw [hs] at h; cases h
  | some e =>
   rw [hs] at h
   simp only [Option.map_some] at h
   cases hb : bE env (⟨nm, e⟩ :: sc) b with
   | er e' p => rw [hb] at h; cases h
   | ok tb => rw [hb] at h; cases h; exact ⟨ta, e, tb, rfl, hs, hb, rfl⟩
end
theorem rF {b : Bool} {t u : Ty} (h : bL b t = some u) : b = true ∧ t = u := by
 cases b with
 | false => cases h
 | true => cases h; exact ⟨rfl, rfl⟩
theorem Ll {t : Ty} (h : Top t) (hk : (t.kind == 2) = true) : t = dn := by rw [WZ h] at hk; exact zV _ _ hk
theorem Ih {t : Ty} (h : Top t) (hk : (t.kind == 1) = true) : t = j6 := by rw [WW h] at hk; exact zV _ _ hk
theorem Vk {env : Env} (hv : eD env = true) : ∀ t : Tm, ∀ (d : Int) (sc : List Decl) (ty : Ty), Wf d t → Bb sc → bE env sc t = .ok ty → bE env sc (dA t) = .ok dn := Tm.ind fun op nm m u ks ih d sc ty hw hs ht => by
 obtain ⟨hnode, _, hks, hkw⟩ := hw.node
 obtain ⟨hop, h20k, h29k, hlen, hbk⟩ := sK hnode
 have two : bY op = 2 → ∃ a b, ks = [a, b] := fun h => by
  have hl := (hlen (ks.map fun _ => bM) (by simp)).two h
  exact dS ks (by simpa using hl)
 have one : bY op = 1 → ∃ a, ks = [a] := fun h => by
  have hl := (hlen (ks.map fun _ => bM) (by simp)).one h
  exact tC ks (by simpa using hl)
 simp only [dA, Bg, qB]
 -- what the kids' types are
 cases h20 : (op == 20) with
 | true =>
  have e : op = 20 := by simpa using h20
  have hk := h20k e
  subst hk e
  exact Gr
 | false =>
  simp only [bE, h20, cond_false] at ht
  cases h29c : (op == 29 && !(knows env u)) with
  | true => rw [h29c] at ht; cases ht
  | false =>
   rw [h29c] at ht
   simp only [cond_false] at ht
   cases hk : gL env sc (bN op) nm 0 ks with
   | er e p => rw [hk] at ht; cases ht
   | ok l =>
    rw [hk] at ht
    simp only at ht
    obtain ⟨_, ltop, _⟩ := IK hv ks sc (bN op) nm 0 l hs.g hk
    obtain ⟨hrow, _⟩ := Im ht
    cases h29 : (op == 29) with
    | true =>
     have e : op = 29 := by simpa using h29
     obtain ⟨hk0, _⟩ := h29k e
     subst hk0 e
     exact Gr
    | false =>
     rw [h29, cond_false] at hrow
     have ihk : ∀ (sc' : List Decl) (k : Tm) (t : Ty), k ∈ ks → Bb sc' → bE env sc' k = .ok t → bE env sc' (dA k) = .ok dn := fun sc' k t hk hs' h => ih k hk (d + 1) sc' t (hkw k hk) hs' h
     cases h46 : (op == 4 || op == 6) with
     | true =>
      rw [cond_true]
      have hq : bY op = 2 ∧ bN op = false := by
       simp only [Bool.or_eq_true, beq_iff_eq] at h46
       rcases h46 with rfl | rfl <;> exact ⟨rfl, rfl⟩
      obtain ⟨a, b, rfl⟩ := two hq.1
      rw [hq.2] at hk
      obtain ⟨ta, tb, ha, hb, rfl⟩ := xq hk
      have hr : bL (qV 2 [ta, tb]) dn = some ty := by
       simp only [Bool.or_eq_true, beq_iff_eq] at h46
       rcases h46 with rfl | rfl <;> exact hrow
      have hall := (rF hr).1
      simp only [qV, List.all_cons, List.all_nil, Bool.and_true, Bool.and_eq_true] at hall
      have ea := Ll (ltop ta (by simp)) hall.1
      subst ea
      exact tV (ihk sc a _ (by simp) hs ha) (Vl ha (ihk sc b _ (by simp) hs hb))
     | false =>
      rw [cond_false]
      cases h5 : (op == 5) with
      | true =>
       rw [cond_true]
       have e5 : op = 5 := by simpa using h5
       subst e5
       obtain ⟨a, b, rfl⟩ := two rfl
       obtain ⟨ta, tb, ha, hb, rfl⟩ := xq hk
       have hr : bL (qV 2 [ta, tb]) dn = some ty := hrow
       have hall := (rF hr).1
       simp only [qV, List.all_cons, List.all_nil, Bool.and_true, Bool.and_eq_true] at hall
       have ea := Ll (ltop ta (by simp)) hall.1
       subst ea
       exact tV (ihk sc a _ (by simp) hs ha) (Xe ha (ihk sc b _ (by simp) hs hb))
      | false =>
       rw [cond_false]
       cases hbi : bN op with
       | true =>
        rw [cond_true]
        obtain ⟨a, b, rfl⟩ := hbk hbi
        rw [hbi] at hk
        obtain ⟨ta, e, tb, ha, hse, hb, rfl⟩ := Qj hk
        have htop := ltop ta (by simp)
        obtain ⟨hg, rfl⟩ := DR htop hse
        have hve := OB (GJ hv hs ha)
        have hs' : Bb (⟨nm, e⟩ :: sc) := fun x hx => by
         rcases List.mem_cons.1 hx with rfl | hx
         ·exact ⟨hg, hve⟩
         ·exact hs x hx
        exact tV (ihk sc a _ (by simp) hs ha) (Vx ha (ihk _ b _ (by simp) hs' hb) (Nk b (d + 1) (hkw b (by simp))))
       | false =>
        rw [cond_false]
        rw [hbi] at hk
        have hD : bE env sc ((ks.map dA).foldl fV mM) = .ok dn := NK Gr fun x hx => by
         obtain ⟨k, hk', rfl⟩ := List.mem_map.1 hx
         obtain ⟨t, ht'⟩ := LP hk k hk'
         exact ihk sc k t hk' hs ht'
        generalize (ks.map dA).foldl fV mM = D at hD ⊢
        unfold sW
        cases h25 : (op == 25) with
        | true =>
         have e : op = 25 := by simpa using h25
         subst e
         obtain ⟨a, b, rfl⟩ := two rfl
         obtain ⟨ta, tb, ha, hb, rfl⟩ := xq hk
         have hall := (rF (show bL (qV 1 [ta, tb]) j6 = some ty from hrow)).1
         simp only [qV, List.all_cons, List.all_nil, Bool.and_true, Bool.and_eq_true] at hall
         have eb := Ih (ltop tb (by simp)) hall.2
         subst eb
         exact tV hD (by rw [oN rfl rfl rfl (show bE env sc (qd [a, b]) = .ok j6 from hb) (CW 0)]; rfl)
        | false =>
         cases h26 : (op == 26) with
         | true =>
          have e : op = 26 := by simpa using h26
          subst e
          obtain ⟨a, b, rfl⟩ := two rfl
          obtain ⟨ta, tb, ha, hb, rfl⟩ := xq hk
          have hall := (rF (show bL (qV 1 [ta, tb]) j6 = some ty from hrow)).1
          simp only [qV, List.all_cons, List.all_nil, Bool.and_true, Bool.and_eq_true] at hall
          have ea := Ih (ltop ta (by simp)) hall.1
          have eb := Ih (ltop tb (by simp)) hall.2
          subst ea eb
          exact tV (tV hD (by rw [oN rfl rfl rfl (CW 0) (show bE env sc (og [a, b]) = .ok j6 from ha)]; rfl)) (by rw [oN rfl rfl rfl (CW 0) (show bE env sc (qd [a, b]) = .ok j6 from hb)]; rfl)
         | false =>
          cases h48 : (op == 48 || op == 49) with
          | true =>
           have hq : bY op = 1 := by
            simp only [Bool.or_eq_true, beq_iff_eq] at h48
            rcases h48 with rfl | rfl <;> rfl
           obtain ⟨a, rfl⟩ := one hq
           obtain ⟨ta, ha, rfl⟩ := Sg hk
           have hr : ((cu ta).bind fun x => bL (x.kind == 1) j6) = some ty := by
            simp only [Bool.or_eq_true, beq_iff_eq] at h48
            rcases h48 with rfl | rfl <;> exact hrow
           cases hse : cu ta with
           | none => rw [hse] at hr; cases hr
           | some e =>
            have hc : bE env sc (fH 47 [og [a]]) = .ok j6 := by
             rw [Fz rfl rfl rfl (show bE env sc (og [a]) = .ok ta from ha)]
             show sw ((cu ta).map fun _ => j6) = _
             rw [hse]
             rfl
            exact tV hD (by rw [oN rfl rfl rfl (CW 0) hc]; rfl)
          | false =>
           cases h54 : (op == 54) with
           | true =>
            have e : op = 54 := by simpa using h54
            subst e
            obtain ⟨a, b, rfl⟩ := two rfl
            obtain ⟨ta, tb, ha, hb, rfl⟩ := xq hk
            have hr : ((gM ta).bind fun x => bL (dx tb x.1) x.2) = some ty := hrow
            cases hre : gM ta with
            | none => rw [hre] at hr; cases hr
            | some x =>
             obtain ⟨x, y⟩ := x
             rw [hre] at hr
             obtain ⟨heq, _⟩ := rF hr
             have etb := (zV _ _ heq).symm
             subst etb
             obtain ⟨gx, gy, rfl⟩ := JA (ltop ta (by simp)) hre
             obtain ⟨v1, v2⟩ := O1 (GJ hv hs ha)
             have c1 : bE env sc (fH 28 [qd [a, b]]) = .ok (bq x) := by
              rw [Fz rfl rfl rfl (show bE env sc (qd [a, b]) = .ok x from hb)]
              show sw (bL (x.kind != 2 && ([x].all fun z => dx z x)) (bq x)) = _
              simp only [bne, Qu gx, Bool.not_false, List.all_cons, List.all_nil, vC, Bool.and_self, bL, cond_true, sw, v1]
             have c2 : bE env sc (fH 53 [og [a, b], fH 28 [qd [a, b]]]) = .ok (bq y) := by
              rw [oN rfl rfl rfl (show bE env sc (og [a, b]) = .ok (bq (dJ x y)) from ha) c1]
              show sw ((gM (bq (dJ x y))).bind fun p => (cu (bq x)).bind fun q => bL (dx q p.1) (bq p.2)) = _
              simp only [KI, F3, Option.bind_some, vC, bL, cond_true, sw, v2]
             have c3 : bE env sc (fH 47 [fH 53 [og [a, b], fH 28 [qd [a, b]]]]) = .ok j6 := by
              rw [Fz rfl rfl rfl c2]
              rfl
             exact tV hD (by rw [oN rfl rfl rfl c3 (CW 1)]; rfl)
           | false => exact hD
end Abs
end Go.Proofs.YtiiaccpcoclklaaGreat

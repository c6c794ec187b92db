/-
  The type of a term: the plain function, and that the program's checker and the document's function come to it. Conditions: valid environments and terms; lemmas without a program.
-/
import Derived.Test.YtiiaccpcoclklaaGreatCDgx5c904c
import Derived.Test.YtiiaccpcoclklaaGreatCDhxbbaa12
import Derived.Test.YtiiaccpcoclklaaGreatCP6xdd401a
set_option linter.unusedSimpArgs false
set_option linter.unusedVariables false
namespace Go.Proofs.YtiiaccpcoclklaaGreat
namespace Abs
open Go
theorem yA {α σ τ ρ : Type} (l : List α) (L : Nat → Nat → Int → σ → Option (LR τ ρ)) (step : Nat → Int → α → σ → Option (LR σ ρ)) (st : Int → α → σ → LR σ ρ) (fin : σ → τ) (I : Int → List α → σ → Prop)
  (h0 : ∀ n k s, L n (k + 1) (l.length : Int) s = some (.nx (fin s)))
  (h1 : ∀ n k i x s, idx l i = some x → decide (i < (l.length : Int)) = true → L n (k + 1) i s = (step n i x s).bind (LR.el (fun s' => L n k (i + 1) s') (fun r => some (.rt r))))
  (hI : ∀ i x suf s, x ∈ l → I i (x :: suf) s → idx l i = some x → Ev (fun n => step n i x s) (st i x s) ∧ ∀ s', st i x s = .nx s' → I (i + 1) suf s') {s0 : σ} (hs0 : I 0 l s0) : Ev (fun n => L n n 0 s0) (dZ st fin 0 l s0) := by
 have key : ∀ (suf pre : List α) (s : σ), l = pre ++ suf → I (pre.length : Int) suf s → ∃ N, ∀ n, N ≤ n → ∀ k, suf.length + 1 ≤ k → L n k (pre.length : Int) s = some (dZ st fin (pre.length : Int) suf s) := by
  intro suf
  induction suf with
  | nil =>
   intro pre s hl _
   refine ⟨0, fun n _ k hk => ?_⟩
   cases k with
   | zero => simp at hk
   | succ k =>
    have e : pre.length = l.length := by rw [hl]; simp
    rw [e, h0]
    rfl
  | cons x suf ih =>
   intro pre s hl hIs
   have hx : idx l (pre.length : Int) = some x := by rw [hl]; exact zi pre x suf
   obtain ⟨⟨N1, k1⟩, k2⟩ := hI _ x suf s (by rw [hl]; simp) hIs hx
   replace k1 : ∀ n, N1 ≤ n → step n (pre.length : Int) x s = some (st (pre.length : Int) x s) := k1
   have hi : decide ((pre.length : Int) < (l.length : Int)) = true := decide_eq_true (by rw [hl]; simp; omega)
   cases hs : st (pre.length : Int) x s with
   | rt r =>
    refine ⟨N1, fun n hn k hk => ?_⟩
    cases k with
    | zero => simp at hk
    | succ k =>
     rw [h1 n k _ x s hx hi, k1 n hn, hs]
     simp [dZ, hs]
   | nx s' =>
    have h3 := k2 s' hs
    have e : ((pre ++ [x]).length : Int) = (pre.length : Int) + 1 := by simp
    obtain ⟨N2, h4⟩ := ih (pre ++ [x]) s' (by rw [hl]; simp) (by rw [e]; exact h3)
    refine ⟨max N1 N2, fun n hn k hk => ?_⟩
    cases k with
    | zero => simp at hk
    | succ k =>
     rw [h1 n k _ x s hx hi, k1 n (by omega), hs]
     simp only [Option.bind_some, LR.el]
     have := h4 n (by omega) k (by simp at hk; omega)
     rw [e] at this
     rw [this]
     simp [dZ, hs]
 obtain ⟨N, hN⟩ := key l [] s0 rfl hs0
 exact ⟨max N (l.length + 1), fun n hn => hN n (by omega) n (by omega)⟩
def Wf (d : Int) (t : Tm) : Prop := ∃ c, 0 ≤ c ∧ (mf t d c).1 = true
theorem ads : ∀ (ts : List Tm) (d c : Int), 0 ≤ c → (iW ts d c).1 = true → c + ts.length ≤ (iW ts d c).2 ∧ ∀ t ∈ ts, Wf d t
 | [], _, c, _, _ => by simp [iW]
 | t :: ts, d, c, h0, h => by
  simp only [iW] at h ⊢
  cases hb : (mf t d c).1 with
  | false => rw [hb] at h; cases h
  | true =>
   rw [hb] at h
   simp only [cond_true] at h ⊢
   have h1 := J7 t d c hb
   obtain ⟨h2, h3⟩ := ads ts d _ (by omega) h
   refine ⟨by simp only [List.length_cons]; omega, fun u hu => ?_⟩
   rcases List.mem_cons.1 hu with rfl | hu
   ·exact ⟨_, h0, hb⟩
   ·exact h3 u hu
theorem Wf.node {op : Int} {nm : Str} {m : Int} {ty : Ty} {ks : List Tm} {d : Int} (h : Wf d (.mk op nm m ty ks)) : eB (.mk op nm m ty ks) = true ∧ d ≤ 64 ∧ ks.length ≤ 2000 ∧ ∀ t ∈ ks, Wf (d + 1) t := by
 obtain ⟨c, h0, h⟩ := h
 simp only [mf] at h
 cases hb : ((decide (c + 1 ≤ 2000) && decide (d ≤ 64)) && eB (.mk op nm m ty ks)) with
 | false => rw [hb] at h; cases h
 | true =>
  rw [hb] at h
  simp only [cond_true] at h
  simp only [Bool.and_eq_true, decide_eq_true_eq] at hb
  obtain ⟨h1, h2⟩ := ads _ _ _ (by omega) h
  have h3 := Vz ks _ _ h
  exact ⟨hb.2, hb.1.2, by have := h3.2 hb.1.1; omega, h2⟩
theorem gG {t : Tm} (h : bV t = true) : Wf 1 t := ⟨0, by omega, h⟩
theorem aeX {op : Int} (h : (dw op == -2) = false) : 1 ≤ op ∧ op ≤ 56 := by
 by_cases hr : 1 ≤ op ∧ op ≤ 56
 ·exact hr
 ·exfalso
  have e : dw op = -2 := by
   unfold dw
   have h1 : (op == 1 || (op == 2 || (op == 19 || (op == 20 || op == 29)))) = false := by
    simp only [Bool.or_eq_false_iff, beq_eq_false_iff_ne]
    omega
   have h2 : (op == 3 || (op == 21 || (decide (46 ≤ op) && decide (op ≤ 52)))) = false := by
    simp only [Bool.or_eq_false_iff, beq_eq_false_iff_ne, Bool.and_eq_false_iff, decide_eq_false_iff_not]
    omega
   have h3 : (op == 28) = false := by
    simp only [beq_eq_false_iff_ne]
    omega
   have h4 : (decide (4 ≤ op) && decide (op ≤ 56)) = false := by
    simp only [Bool.and_eq_false_iff, decide_eq_false_iff_not]
    omega
   rw [h1, h2, h3, h4]
   rfl
  rw [e] at h
  cases h
theorem jM {op : Int} {nm : Str} {m : Int} {ty : Ty} {ks : List Tm} (h : eB (.mk op nm m ty ks) = true) : (1 ≤ op ∧ op ≤ 56) ∧ (op = 20 → ks = []) ∧ (op = 29 → ks = [] ∧ bN ty = true ∧ (ty.kind == 2) = false) ∧ (∀ l : List Ty, l.length = ks.length → LenOk op l) ∧ (bg op = true → ∃ x y, ks = [x, y]) := by
 simp only [eB, Bool.and_eq_true, uD, Tm.op, Tm.kids, Bool.not_eq_true'] at h
 obtain ⟨⟨h1, h2⟩, _, _, h5⟩ := h
 have hlen : ∀ q : Int, dw op = q → (q == -1) = false → (ks.length : Int) = q := fun q e hq => by
  rw [e, hq] at h2
  simpa using h2
 have hnil : dw op = 0 → ks = [] := fun e => by
  have := hlen 0 e rfl
  exact List.length_eq_zero_iff.1 (by omega)
 refine ⟨aeX h1, fun e => hnil (by subst e; rfl), fun e => ⟨hnil (by subst e; rfl), ?_⟩, fun l hl => ⟨fun e => by rw [hl]; exact hlen 1 e rfl, fun e => by rw [hl]; exact hlen 2 e rfl, fun e => ?_⟩, fun hb => ?_⟩
 ·subst e
  have h5' : (bN ty && ty.kind != 2) = true := h5
  simp only [Bool.and_eq_true, bne_iff_ne, ne_eq] at h5'
  exact ⟨h5'.1, by simpa using h5'.2⟩
 ·rintro rfl
  rw [e] at h2
  have : ks = [] := List.length_eq_zero_iff.1 hl.symm
  subst this
  cases h2
 ·have : dw op = 2 := by
   simp only [bg, Bool.or_eq_true, beq_iff_eq] at hb
   rcases hb with rfl | rfl | rfl | rfl <;> rfl
  obtain ⟨x, y, e⟩ := dD ks (hlen 2 this rfl)
  exact ⟨x, y, e⟩
inductive TR where
 | ok (t : Ty)
 | er (e : Int) (p : List Int)
inductive KR where
 | ok (l : List Ty)
 | er (e : Int) (p : List Int)
def jl (env : Env) (sc : List Decl) (s : Str) : Option Ty := match sc.find? (fun d => d.name == s) with | some d => some d.ty | none => look env s
def pF (o : Option Ty) : TR := match o with | some t => cond (bN t) (.ok t) (.er 5 []) | none => .er 7 []
def knows (env : Env) (t : Ty) : Bool := (eG t).all (eu env)
def gD (b : Bool) (nm : Str) (ty : Ty) (sc : List Decl) : Option (List Decl) := cond b ((bL ty).map fun e => ⟨nm, e⟩ :: sc) (some sc)
mutual
def aY (env : Env) : List Decl → Tm → TR
 | sc, .mk op nm _ ty ks =>
  cond (op == 20) (match jl env sc nm with | some t => .ok t | none => .er 6 [])
   (cond (op == 29 && !(knows env ty)) (.er 6 [])
    (match bY env sc (bg op) nm 0 ks with
     | .er e p => .er e p
     | .ok l => pF (cond (op == 29) (some (aW ty)) (jB op l))))
def bY (env : Env) : List Decl → Bool → Str → Int → List Tm → KR
 | _, _, _, _, [] => .ok []
 | sc, b, nm, i, t :: ts => match aY env sc t with
  | .er e p => .er e (i :: p)
  | .ok ty => match gD b nm ty sc with
   | none => .er 7 []
   | some sc' => match bY env sc' false nm (i + 1) ts with
    | .er e p => .er e p
    | .ok l => .ok (ty :: l)
end
def GoodS (sc : List Decl) : Prop := ∀ d ∈ sc, Good d.ty
theorem Rb {t : Ty} (h : bN t = true) (hb : ji 2 t = false) : Good t := by
 rcases ZQ h with rfl | h
 ·cases hb
 ·exact h
theorem agU {env : Env} (h : bX env = true) {s : Str} {t : Ty} (ht : look env s = some t) : Good t := by
 rw [Km h] at ht
 unfold uH at ht
 rcases List.mem_append.1 ht with ht | ht
 ·obtain ⟨c, hc, ht⟩ := List.mem_flatMap.1 ht
  unfold l5 at ht
  rcases List.mem_cons.1 ht with ht | ht
  ·cases ht; exact .set (.car _)
  ·obtain ⟨e, _, he⟩ := List.mem_map.1 ht
   cases he; exact .car _
 ·obtain ⟨d, hd, he⟩ := List.mem_map.1 ht
  cases he
  obtain ⟨_, h1, h2, _⟩ := VA h hd
  exact Rb h1 h2
theorem afx {env : Env} (h : bX env = true) {sc : List Decl} (hs : GoodS sc) {s : Str} {t : Ty} (ht : jl env sc s = some t) : Good t := by
 unfold jl at ht
 cases hf : sc.find? (fun d => d.name == s) with
 | some d => rw [hf] at ht; cases ht; exact hs d (List.mem_of_find?_eq_some hf)
 | none => rw [hf] at ht; exact agU h ht
theorem XC {o : Option Ty} {t : Ty} (h : pF o = .ok t) : o = some t ∧ bN t = true := by
 cases o with
 | none => cases h
 | some u =>
  simp only [pF] at h
  cases hv : bN u with
  | false => rw [hv] at h; cases h
  | true => rw [hv] at h; cases h; exact ⟨rfl, hv⟩
theorem aeo {o : Option Ty} {e : Int} {p : List Int} (h : pF o = .er e p) : e ≠ 0 ∧ p = [] := by
 cases o with
 | none => cases h; exact ⟨by decide, rfl⟩
 | some u =>
  simp only [pF] at h
  cases hv : bN u with
  | false => rw [hv] at h; cases h; exact ⟨by decide, rfl⟩
  | true => rw [hv] at h; cases h
theorem Eh {b : Bool} {nm : Str} {ty : Ty} {sc sc' : List Decl} (ht : Top ty) (hs : GoodS sc) (h : gD b nm ty sc = some sc') : GoodS sc' := by
 unfold gD at h
 cases b with
 | false => cases h; exact hs
 | true =>
  simp only [cond_true] at h
  cases he : bL ty with
  | none => rw [he] at h; cases h
  | some e =>
   rw [he] at h
   cases h
   intro d hd
   rcases List.mem_cons.1 hd with rfl | hd
   ·exact (l9 ht he).1
   ·exact hs d hd
theorem zS {env : Env} (h : bX env = true) {t : Tm} {sc : List Decl} (hs : GoodS sc) {ty : Ty} (ht : aY env sc t = .ok ty) : Top ty := by
 obtain ⟨op, nm, m, u, ks⟩ := t
 simp only [aY] at ht
 cases h20 : (op == 20) with
 | true =>
  rw [h20] at ht
  simp only [cond_true] at ht
  cases hl : jl env sc nm with
  | none => rw [hl] at ht; cases ht
  | some t => rw [hl] at ht; cases ht; exact .inr (afx h hs hl)
 | false =>
  rw [h20] at ht
  simp only [cond_false] at ht
  cases h29 : (op == 29 && !(knows env u)) with
  | true => rw [h29] at ht; cases ht
  | false =>
   rw [h29] at ht
   simp only [cond_false] at ht
   cases hk : bY env sc (bg op) nm 0 ks with
   | er e p => rw [hk] at ht; cases ht
   | ok l => rw [hk] at ht; exact ZQ (XC ht).2
theorem OV {env : Env} (h : bX env = true) : ∀ (ts : List Tm) (sc : List Decl) (b : Bool) (nm : Str) (i : Int) (l : List Ty), GoodS sc → bY env sc b nm i ts = .ok l → l.length = ts.length ∧ (∀ t ∈ l, Top t) ∧ (b = true → ts ≠ [] → (bL (l.headD bA)).isSome = true)
 | [], sc, b, nm, i, l, _, hk => by
  simp only [bY] at hk
  cases hk
  exact ⟨rfl, fun t ht => (by cases ht), fun _ h => absurd rfl h⟩
 | t :: ts, sc, b, nm, i, l, hs, hk => by
  simp only [bY] at hk
  cases ht : aY env sc t with
  | er e p => rw [ht] at hk; cases hk
  | ok ty =>
   rw [ht] at hk
   simp only at hk
   have htop := zS h hs ht
   cases hb : gD b nm ty sc with
   | none => rw [hb] at hk; cases hk
   | some sc' =>
    rw [hb] at hk
    simp only at hk
    cases hr : bY env sc' false nm (i + 1) ts with
    | er e p => rw [hr] at hk; cases hk
    | ok l' =>
     rw [hr] at hk
     cases hk
     obtain ⟨h1, h2, _⟩ := OV h ts sc' false nm (i + 1) l' (Eh htop hs hb) hr
     refine ⟨by simp [h1], fun u hu => ?_, fun hbt _ => ?_⟩
     ·rcases List.mem_cons.1 hu with rfl | hu
      ·exact htop
      ·exact h2 u hu
     ·subst hbt
      show (bL ty).isSome = true
      unfold gD at hb
      cases he : bL ty with
      | none => rw [he] at hb; cases hb
      | some e => rfl
mutual
theorem Cw {env : Env} : ∀ (t : Tm) (sc : List Decl) (e : Int) (p : List Int), aY env sc t = .er e p → e ≠ 0
 | .mk op nm m u ks, sc, e, p, h => by
  simp only [aY] at h
  cases h20 : (op == 20) with
  | true =>
   rw [h20] at h
   simp only [cond_true] at h
   cases hl : jl env sc nm with
   | none => rw [hl] at h; cases h; decide
   | some t => rw [hl] at h; cases h
  | false =>
   rw [h20] at h
   simp only [cond_false] at h
   cases h29 : (op == 29 && !(knows env u)) with
   | true => rw [h29] at h; cases h; decide
   | false =>
    rw [h29] at h
    simp only [cond_false] at h
    cases hk : bY env sc (bg op) nm 0 ks with
    | er e' p' => rw [hk] at h; cases h; exact adO ks sc _ nm 0 _ _ hk
    | ok l => rw [hk] at h; exact (aeo h).1
theorem adO {env : Env} : ∀ (ts : List Tm) (sc : List Decl) (b : Bool) (nm : Str) (i : Int) (e : Int) (p : List Int), bY env sc b nm i ts = .er e p → e ≠ 0
 | [], sc, b, nm, i, e, p, h => by simp only [bY] at h; cases h
 | t :: ts, sc, b, nm, i, e, p, h => by
  simp only [bY] at h
  cases ht : aY env sc t with
  | er e' p' => rw [ht] at h; cases h; exact Cw t sc _ _ ht
  | ok ty =>
   rw [ht] at h
   simp only at h
   cases hb : gD b nm ty sc with
   | none => rw [hb] at h; cases h; decide
   | some sc' =>
    rw [hb] at h
    simp only at h
    cases hr : bY env sc' false nm (i + 1) ts with
    | er e' p' => rw [hr] at h; cases h; exact adO ts sc' false nm _ _ _ hr
    | ok l' => rw [hr] at h; cases h
end
mutual
theorem Nj {env : Env} : ∀ {t : Tm} {d : Int} (_ : Wf d t) (sc : List Decl) (e : Int) (p : List Int), aY env sc t = .er e p → (p.length : Int) + d ≤ 64
 | .mk op nm m u ks, d, hw, sc, e, p, h => by
  obtain ⟨_, hd, _, hkw⟩ := hw.node
  simp only [aY] at h
  cases h20 : (op == 20) with
  | true =>
   rw [h20] at h
   simp only [cond_true] at h
   cases hl : jl env sc nm with
   | none => rw [hl] at h; cases h; simpa using hd
   | some t => rw [hl] at h; cases h
  | false =>
   rw [h20] at h
   simp only [cond_false] at h
   cases h29 : (op == 29 && !(knows env u)) with
   | true => rw [h29] at h; cases h; simpa using hd
   | false =>
    rw [h29] at h
    simp only [cond_false] at h
    cases hk : bY env sc (bg op) nm 0 ks with
    | er e' p' => rw [hk] at h; cases h; exact Zk ks d hd hkw sc _ nm 0 _ _ hk
    | ok l => rw [hk] at h; rw [(aeo h).2]; simpa using hd
theorem Zk {env : Env} : ∀ (ts : List Tm) (d : Int) (_ : d ≤ 64) (_ : ∀ t ∈ ts, Wf (d + 1) t) (sc : List Decl) (b : Bool) (nm : Str) (i : Int) (e : Int) (p : List Int), bY env sc b nm i ts = .er e p → (p.length : Int) + d ≤ 64
 | [], d, _, _, sc, b, nm, i, e, p, h => by simp only [bY] at h; cases h
 | t :: ts, d, hd, hw, sc, b, nm, i, e, p, h => by
  simp only [bY] at h
  cases ht : aY env sc t with
  | er e' p' =>
   rw [ht] at h
   cases h
   have := Nj (hw t (List.mem_cons_self ..)) sc _ _ ht
   simp only [List.length_cons, Int.natCast_add, Int.natCast_one]
   omega
  | ok ty =>
   rw [ht] at h
   simp only at h
   cases hb : gD b nm ty sc with
   | none => rw [hb] at h; cases h; simpa using hd
   | some sc' =>
    rw [hb] at h
    simp only at h
    cases hr : bY env sc' false nm (i + 1) ts with
    | er e' p' => rw [hr] at h; cases h; exact Zk ts d hd (fun u hu => hw u (List.mem_cons_of_mem _ hu)) sc' false nm _ _ _ hr
    | ok l' => rw [hr] at h; cases h
end
def yD (env : Env) : List (Str × Ty) := fD (uH env) []
def vY (env : Env) : List (Str × Bool) := fD (env.carriers.map fun c => (c.name, true)) []
theorem acj {env : Env} (h : bX env = true) (s : Str) : eP (yD env) s = look env s := by
 unfold yD
 rw [Ni _ _ _ (Bp h), CP]
 unfold look
 rw [← TK (Ve env) (Bp h)]
 cases eP (uH env) s <;> rfl
theorem ac9 {env : Env} (h : bX env = true) (s : Str) : eP (vY env) s = cond (eu env s) (some true) none := by
 unfold vY
 have hn : ((env.carriers.map fun c => (c.name, true)).map (·.1)).Nodup := by
  have := (qQ h).2.2.2.2
  unfold names2 at this
  rw [List.map_map]
  exact (List.nodup_append.1 this).1
 rw [Ni _ _ _ hn, CP, Gj (fun c : Carrier => c.name) (fun _ => true)]
 unfold eu
 cases hf : env.carriers.find? (fun c => c.name == s) with
 | none =>
  have : (env.carriers.any fun c => c.name == s) = false := by
   rw [List.any_eq_false]
   intro x hx
   simpa using List.find?_eq_none.1 hf x hx
  rw [this]
  rfl
 | some c =>
  have : (env.carriers.any fun c => c.name == s) = true := List.any_eq_true.2 ⟨c, List.mem_of_find?_eq_some hf, by have := List.find?_some hf; simpa using this⟩
  rw [this]
  rfl
theorem Z0 {env : Env} (h : bX env = true) : Ev (fun n => qp n env) (yD env, vY env) := by
 obtain ⟨hc8, _⟩ := qQ h
 unfold qp
 refine Ev.bind (aiF h) ?_
 have h1 := kD (ρ := (List (Str × Ty)) × (List (Str × Bool))) env.carriers (fun n k i s => nk n env k (i, s)) (fun n x s => xC s x.name true) (fun x s => jN s x.name true) (fun s => s) (fun suf s => s.length + suf.length ≤ 1000)
  (fun n k i s => rfl)
  (fun x suf s hx hs => by
   simp only [List.length_cons] at hs
   refine ⟨?_, ?_⟩
   ·rw [Ep (by omega)]; exact Ev.ret _
   ·have := zO s x.name true; omega) (s0 := []) (by simp; omega)
 have hf : ∀ (cs : List Carrier) (m : List (Str × Bool)), cs.foldl (fun s x => jN s x.name true) m = fD (cs.map fun c => (c.name, true)) m := by
  intro cs
  induction cs with
  | nil => intro m; rfl
  | cons e es ih => intro m; rw [List.foldl_cons, ih]; rfl
 rw [hf] at h1
 exact Ev.bind h1 (Ev.ret _)
theorem aiQ {env : Env} (h : bX env = true) {t : Ty} (ht : bN t = true) (M : List (Str × Ty)) (path : List Int) : Ev (fun n => kV n M (vY env) path t) (knows env t) := by
 unfold kV kW mM knows
 refine Ev.bind (wT ht) ?_
 generalize hl : ((fD ((eG t).map fun s => (s, true)) []).map (·.1)).mergeSort AO = l
 have hm : ∀ s, s ∈ l ↔ s ∈ eG t := fun s => by rw [← hl]; exact ET t s
 have hf := xJ l (fun n k i => iQ n l M (vY env) path k i) (fun n x => lN n x M (vY env) path) (fun s => !(eu env s)) (fun n k i => rfl) (fun x _ => by
  unfold lN
  rw [ac9 h]
  cases eu env x
  ·exact Ev.ret _
  ·exact Ev.ret _)
 refine Ev.bind (a := l.any fun s => !(eu env s)) (Ev.bind hf ?_) ?_
 ·rw [w9 _ _ _ (Int.le_refl _)]
  exact Ev.ret _
 ·rw [nL, Bool.not_not]
  have : l.all (eu env) = (eG t).all (eu env) := by
   have h : (l.all (eu env) = true) ↔ ((eG t).all (eu env) = true) := by simp only [List.all_eq_true, hm]
   cases h1 : l.all (eu env) <;> cases h2 : (eG t).all (eu env) <;> simp_all
  rw [this]
  exact Ev.ret _
theorem SH (n : Nat) (op : Int) : sF n op = some (bg op) := by
 unfold sF bg
 simp only [orC, Option.bind_some]
theorem VG (t : Ty) : Ev (fun n => mo n t) (cond (bN t) (t, 0) (bA, 5)) := by
 unfold mo
 refine Ev.bind (jJ t) ?_
 cases bN t
 ·exact Ev.ret _
 ·exact Ev.ret _
def scP (o : Option Decl) : Ty × Bool := match o with | some d => (d.ty, true) | none => (bA, false)
theorem Uy (sc : List Decl) (s : Str) : Ev (fun n => lG n sc s) (scP (sc.find? fun d => d.name == s)) := by
 have key : ∀ (sc : List Decl) (n k : Nat), sc.length + 1 ≤ k → iI n s k sc = some (match sc.find? (fun d => d.name == s) with | some d => .rt (d.ty, true) | none => .nx ()) := by
  intro sc
  induction sc with
  | nil =>
   intro n k hk
   cases k with
   | zero => simp at hk
   | succ k => rfl
  | cons d sc ih =>
   intro n k hk
   cases k with
   | zero => simp at hk
   | succ k =>
    show cond (d.name == s) (some (.rt (d.ty, true))) (iI n s k sc) = _
    simp only [List.find?_cons]
    cases hd : d.name == s with
    | true => rfl
    | false => exact ih n k (by simp at hk; omega)
 unfold lG
 have h1 : Ev (fun n => iI n s n sc) (match sc.find? (fun d => d.name == s) with | some d => .rt (d.ty, true) | none => .nx ()) := ⟨sc.length + 1, fun n hn => key sc n n hn⟩
 refine Ev.bind h1 ?_
 cases sc.find? fun d => d.name == s
 ·exact Ev.ret _
 ·exact Ev.ret _
def Hg (path : List Int) (r : TR) : Ty × Int × List Int := match r with | .ok t => (t, 0, path) | .er e p => (bA, e, path ++ p)
abbrev CS := List Decl × List Ty × List Int
def ane (env : Env) (n : Nat) (t : Tm) (i : Int) (s : CS) : Option (LR CS (Ty × Int × List Int)) := (gH n (yD env) (vY env) s.2.2 t i s.1).bind fun (x57 : Ty × Int × (List Int)) => (cond (x57.2.1 != 0) (some (.rt ((Ty.mk 0 ([] : Str) ([])), x57.2.1, x57.2.2))) ((app 48 s.2.1 ([x57.1])).bind fun (x58 : List Ty) => (((cond (i == 0) ((sF n t.op).bind fun (x60 : Bool) => some x60) (some false)) : Option Bool).bind fun (s6 : Bool) => (cond s6 ((dn n x57.1).bind fun (x59 : Ty × Bool) => (cond (!x59.2) (some (.rt ((Ty.mk 0 ([] : Str) ([])), 7, x57.2.2))) (some (.nx (((Decl.mk t.name x59.1) :: s.1), x58, x57.2.2))))) (some (.nx (s.1, x58, x57.2.2)))))))
def stC (env : Env) (op : Int) (nm : Str) (i : Int) (x : Tm) (s : CS) : LR CS (Ty × Int × List Int) := match aY env s.1 x with
 | .er e p => .rt (bA, e, s.2.2 ++ i :: p)
 | .ok ty => match gD (i == 0 && bg op) nm ty s.1 with
  | none => .rt (bA, 7, s.2.2)
  | some sc' => .nx (sc', s.2.1 ++ [ty], s.2.2)
theorem adN (env : Env) (op : Int) (nm : Str) : ∀ (ts : List Tm) (i : Int) (sc : List Decl) (acc : List Ty) (path : List Int), 0 ≤ i → (match bY env sc (i == 0 && bg op) nm i ts with
  | .er e p => dZ (stC env op nm) (fun s => s) i ts (sc, acc, path) = .rt (bA, e, path ++ p)
  | .ok l => ∃ sc', dZ (stC env op nm) (fun s => s) i ts (sc, acc, path) = .nx (sc', acc ++ l, path))
 | [], i, sc, acc, path, _ => by
  simp only [bY, dZ, List.append_nil]
  exact ⟨sc, rfl⟩
 | t :: ts, i, sc, acc, path, hi => by
  simp only [bY, dZ, stC]
  cases ht : aY env sc t with
  | er e p => rfl
  | ok ty =>
   simp only
   cases hb : gD (i == 0 && bg op) nm ty sc with
   | none => simp only [List.append_nil]
   | some sc' =>
    simp only
    have hz : (i + 1 == 0) = false := by simp only [beq_eq_false_iff_ne]; omega
    have := adN env op nm ts (i + 1) sc' (acc ++ [ty]) path (by omega)
    rw [hz, Bool.false_and] at this
    cases hr : bY env sc' false nm (i + 1) ts with
    | er e p => rw [hr] at this; exact this
    | ok l =>
     rw [hr] at this
     obtain ⟨sc2, h2⟩ := this
     exact ⟨sc2, by rw [h2]; simp⟩
def ah2 (env : Env) (t : Tm) : Prop := ∀ (d : Int) (sc : List Decl) (path : List Int), Wf d t → GoodS sc → (path.length : Int) < d → Ev (fun n => gW n (yD env) (vY env) path t sc) (Hg path (aY env sc t))
theorem ag7 (path : List Int) (i : Int) (h : path.length ≤ 1000) : ny (path ++ [i]) 0 (IntKind.wrap .i64 (((path ++ [i]).length : Int) - 1)) = some path := by
 have e : ((path ++ [i]).length : Int) - 1 = (path.length : Int) := by simp
 rw [e, wrap64 (by omega) (by omega), Cr _ _ (by simp)]
 simp
theorem ajl {env : Env} {t x : Tm} {i : Int} (hx : idx t.kids i = some x) (hc : ah2 env x) {d : Int} {sc : List Decl} {path : List Int} (hw : Wf (d + 1) x) (hs : GoodS sc) (hp : (path.length : Int) < d) (hd : d ≤ 64) :
  Ev (fun n => gH n (yD env) (vY env) path t i sc) (match aY env sc x with | .ok ty => (ty, 0, path) | .er e p => (bA, e, path ++ i :: p)) := by
 refine Ev.succ ?_
 show Ev (fun n => jW n _ _ (yD env) (vY env) path t i sc) _
 unfold jW
 rw [gY (by simp; omega) (by omega), hx]
 simp only [Option.bind_some]
 refine Ev.bind (hc (d + 1) sc (path ++ [i]) hw hs (by simp; omega)) ?_
 cases ht : aY env sc x with
 | ok ty =>
  simp only [Hg]
  refine Ev.bind (a := path) ?_ (Ev.ret _)
  simp only [show ((0 : Int) == 0) = true from rfl, cond_true]
  rw [ag7 path i (by omega)]
  exact Ev.ret _
 | er e p =>
  have he := Cw x sc e p ht
  have e0 : (e == 0) = false := by simpa using he
  simp only [Hg, e0, cond_false, Option.bind_some, List.append_assoc, List.singleton_append]
  exact Ev.ret _
theorem aiE (n : Nat) (r1 : (List (Str × Ty)) → (List (Str × Bool)) → (List Int) → Tm → (List Decl) → Option (Ty × Int × (List Int))) (r2 : (List (Str × Ty)) → (List (Str × Bool)) → (List Int) → Tm → Int → (List Decl) → Option (Ty × Int × (List Int))) (p0 : List (Str × Ty)) (p1 : List (Str × Bool)) (p2 : List Int) (p3 : Tm) (p4 : List Decl) :
  lK n r1 r2 p0 p1 p2 p3 p4 = ((kR n r1 r2 p0 p1 p3 n (p4, ([] : List Ty), 0, p2)).bind (LR.el (fun (s2 : (List Decl) × (List Ty) × (List Int)) => (cond (p3.op == 20) ((lG n s2.1 p3.name).bind fun (x1 : Ty × Bool) => (cond x1.2 (some (x1.1, 0, s2.2.2)) (((Zb (eP p0 p3.name) (some (false, 0, ([] : Str), ([] : List Ty))) (fun (x2 : Ty) => some (true, x2.kind, x2.name, x2.kids))) : Option (Bool × Int × Str × (List Ty))).bind fun (s3 : Bool × Int × Str × (List Ty)) => (cond (!s3.1) (some ((Ty.mk 0 ([] : Str) ([])), 6, s2.2.2)) (some ((Ty.mk s3.2.1 s3.2.2.1 s3.2.2.2), 0, s2.2.2)))))) (cond (p3.op == 29) ((kV n p0 p1 s2.2.2 p3.ty).bind fun (x3 : Bool) => (cond (!x3) (some ((Ty.mk 0 ([] : Str) ([])), 6, s2.2.2)) ((mo n (Ty.mk 5 ([] : Str) ([p3.ty]))).bind fun (x4 : Ty × Int) => some (x4.1, x4.2, s2.2.2)))) ((ahS n p3.op s2.2.1).bind fun (s4 : Bool × Int × Str × (List Ty)) => (cond (!s4.1) (some ((Ty.mk 0 ([] : Str) ([])), 7, s2.2.2)) ((mo n (Ty.mk s4.2.1 s4.2.2.1 s4.2.2.2)).bind fun (x5 : Ty × Int) => some (x5.1, x5.2, s2.2.2))))))) (fun r => some r))) := rfl
theorem amm {env : Env} (hv : bX env = true) : ∀ t : Tm, ah2 env t := Tm.ind fun op nm m ty ks ih d sc path hw hs hp => by
 obtain ⟨hnode, hd, hks, hkw⟩ := hw.node
 obtain ⟨hop, h20k, h29k, hlen, hbk⟩ := jM hnode
 refine Ev.succ ?_
 show Ev (fun n => lK n (fun p0 p1 p2 p3 p4 => gW n p0 p1 p2 p3 p4) (fun p0 p1 p2 p3 p4 p5 => gH n p0 p1 p2 p3 p4 p5) (yD env) (vY env) path (.mk op nm m ty ks) sc) _
 simp only [aiE]
 have hloop := yA ks (fun n k i (s : CS) => kR n (fun p0 p1 p2 p3 p4 => gW n p0 p1 p2 p3 p4) (fun p0 p1 p2 p3 p4 p5 => gH n p0 p1 p2 p3 p4 p5) (yD env) (vY env) (.mk op nm m ty ks) k (s.1, s.2.1, i, s.2.2))
  (fun n i _ s => ane env n (.mk op nm m ty ks) i s) (stC env op nm) (fun s => s) (fun _ suf s => GoodS s.1 ∧ s.2.1.length + suf.length ≤ 2000 ∧ s.2.2 = path)
  (fun n k s => by
   show cond (decide ((ks.length : Int) < (ks.length : Int))) _ _ = _
   rw [decide_eq_false (by omega)]
   rfl)
  (fun n k i x s hx hi => by
   show cond (decide (i < (ks.length : Int))) _ _ = _
   rw [hi]
   rfl)
  (fun i x suf s hx hI hidx => by
   obtain ⟨h1, h2, h3⟩ := hI
   simp only [List.length_cons] at h2
   have hch := ajl (t := .mk op nm m ty ks) (i := i) hidx (ih x hx) (hkw x hx) h1 (path := s.2.2) (by rw [h3]; exact hp) hd
   refine ⟨?_, fun s' hs' => ?_⟩
   ·refine Ev.bind hch ?_
    unfold stC
    cases ht : aY env s.1 x with
    | er e p =>
     have he := Cw x s.1 e p ht
     have e0 : (e != 0) = true := by simpa using he
     simp only [e0, cond_true]
     exact Ev.ret _
    | ok u =>
     have htop := zS hv h1 ht
     simp only [show ((0 : Int) != 0) = false from rfl, cond_false]
     rw [gY (by simp; omega) (by omega)]
     simp only [Option.bind_some, SH, Tm.op, Tm.name]
     refine Ev.bind (a := (i == 0 && bg op)) ?_ ?_
     ·cases i == 0
      ·exact Ev.ret _
      ·exact Ev.ret _
     ·unfold gD
      cases (i == 0 && bg op) with
      | false => exact Ev.ret _
      | true =>
       simp only [cond_true, iC _ htop, Option.bind_some]
       cases bL u with
       | none => exact Ev.ret _
       | some e => exact Ev.ret _
   ·unfold stC at hs'
    cases ht : aY env s.1 x with
    | er e p => rw [ht] at hs'; cases hs'
    | ok u =>
     rw [ht] at hs'
     simp only at hs'
     cases hb : gD (i == 0 && bg op) nm u s.1 with
     | none => rw [hb] at hs'; cases hs'
     | some sc' =>
      rw [hb] at hs'
      cases hs'
      refine ⟨Eh (zS hv h1 ht) h1 hb, ?_, h3⟩
      simp only [List.length_append, List.length_singleton]
      omega) (s0 := (sc, [], path)) ⟨hs, by simp; omega, rfl⟩
 have hrun := adN env op nm ks 0 sc [] path (Int.le_refl _)
 simp only [show ((0 : Int) == 0) = true from rfl, Bool.true_and, List.nil_append] at hrun
 simp only [aY]
 cases h20 : (op == 20) with
 | true =>
  have e : op = 20 := by simpa using h20
  have hk := h20k e
  subst hk
  refine Ev.bind hloop ?_
  simp only [dZ, LR.el, Tm.op, Tm.name, h20, cond_true]
  refine Ev.bind (Uy sc nm) ?_
  unfold jl
  cases sc.find? (fun d => d.name == nm) with
  | some d => exact Ev.ret _
  | none =>
   simp only [scP, cond_false, cond_true, Tm.name, acj hv]
   cases hl : look env nm with
   | none => simp only [Hg, List.append_nil]; exact Ev.ret _
   | some t => obtain ⟨a, b, c⟩ := t; exact Ev.ret _
 | false =>
  simp only [cond_false]
  cases h29 : (op == 29) with
  | true =>
   have e : op = 29 := by simpa using h29
   obtain ⟨hk, hvt, _⟩ := h29k e
   subst hk
   refine Ev.bind hloop ?_
   simp only [Tm.op, h20, h29, cond_false, cond_true, Tm.ty]
   refine Ev.bind (aiQ hv hvt _ _) ?_
   cases knows env ty with
   | false => simp only [Bool.not_false, Bool.and_true, cond_true, Hg, List.append_nil]; exact Ev.ret _
   | true =>
    simp only [Bool.not_true, Bool.and_false, cond_false, bY, pF]
    refine Ev.bind (VG (aW ty)) ?_
    cases bN (aW ty) with
    | false => simp only [cond_false, Hg, List.append_nil]; exact Ev.ret _
    | true => exact Ev.ret _
  | false =>
   simp only [Bool.false_and, cond_false]
   cases hk : bY env sc (bg op) nm 0 ks with
   | er e p =>
    rw [hk] at hrun
    simp only at hrun
    rw [hrun] at hloop
    exact Ev.bind hloop (Ev.ret _)
   | ok l =>
    rw [hk] at hrun
    obtain ⟨sc', hrun⟩ := hrun
    rw [hrun] at hloop
    refine Ev.bind hloop ?_
    simp only [LR.el, Tm.op, h20, h29, cond_false]
    obtain ⟨k1, k2, k3⟩ := OV hv ks sc (bg op) nm 0 l hs hk
    obtain ⟨r, hr1, hr2⟩ := agq hop.1 hop.2 (by simpa using h20) (by simpa using h29) k2 (hlen l k1) (fun hb => k3 hb (by obtain ⟨x, y, e⟩ := hbk hb; rw [e]; simp))
    refine Ev.bind hr1 ?_
    cases ho : jB op l with
    | none =>
     rw [ho] at hr2
     simp only at hr2
     simp only [hr2, Bool.not_false, cond_true, pF, Hg, List.append_nil]
     exact Ev.ret _
    | some t =>
     rw [ho] at hr2
     simp only at hr2
     subst hr2
     simp only [Bool.not_true, cond_false, lQ, pF]
     refine Ev.bind (VG t) ?_
     cases bN t with
     | false => simp only [cond_false, Hg, List.append_nil]; exact Ev.ret _
     | true => exact Ev.ret _
def DK (r : TR) : Ty × List Int × Int := match r with | .ok t => (t, [], 0) | .er e p => (bA, p, e)
def fE (env : Env) (t : Tm) : Ty × List Int × Int := cond (bX env && bV t) (DK (aY env [] t)) (bA, [], 1)
theorem MZ : GoodS [] := fun _ h => by cases h
abbrev jT (env : Env) : Prop := ∀ d ∈ env.names, d.name.length ≤ 9223372036854775807
theorem iJ (env : Env) (t : Tm) (hs : jT env) (ht : fB t) : Ev (fun n => iy n env t) (fE env t) := by
 unfold iy fE
 refine Ev.bind (a := !(bX env && bV t)) ?_ ?_
 ·refine Ev.bind (CK env hs) ?_
  cases bX env with
  | false => exact Ev.ret _
  | true => exact Ev.bind (Dt t ht) (Ev.ret _)
 ·cases hb : (bX env && bV t) with
  | false => exact Ev.ret _
  | true =>
   simp only [Bool.and_eq_true] at hb
   simp only [Bool.not_true, cond_false, cond_true]
   refine Ev.bind (Z0 hb.1) ?_
   refine Ev.bind (amm hb.1 t 1 [] [] (gG hb.2) MZ (by simp)) ?_
   cases hr : aY env [] t with
   | er e p =>
    have he := Cw t [] e p hr
    have e0 : (e != 0) = true := by simpa using he
    have hp := Nj (gG hb.2) [] e p hr
    simp only [Hg, DK, e0, cond_true, slices_Clone_int, List.nil_append]
    rw [gY (by simp; omega) (by omega)]
    exact Ev.ret _
   | ok u =>
    simp only [Hg, DK, show ((0 : Int) != 0) = false from rfl, cond_false]
    exact Ev.bind (Rs u (ag6 (zS hb.1 MZ hr))) (Ev.ret _)
def exprE (env : Env) (t : Tm) : Ty × Int := cond ((fE env t).2.2 == 0 && (fE env t).1.kind == 2) (bA, 7) ((fE env t).1, (fE env t).2.2)
theorem exprC (r : Ty × List Int × Int) : Ev (fun _ => ((cond (r.2.2 == 0) (some (r.1.kind == 2)) (some false)) : Option Bool).bind fun (s1 : Bool) => (cond s1 (some ((Ty.mk 0 ([] : Str) ([])), (7 : Int))) (some (r.1, r.2.2)))) (cond (r.2.2 == 0 && r.1.kind == 2) (bA, 7) (r.1, r.2.2)) := by
 cases r.2.2 == 0 with
 | false => exact Ev.ret _
 | true =>
  cases r.1.kind == 2
  ·exact Ev.ret _
  ·exact Ev.ret _
theorem typing_Expression_ev (env : Env) (t : Tm) (hs : jT env) (ht : fB t) : Ev (fun n => typing_Expression n env t) (exprE env t) := by
 unfold typing_Expression
 exact Ev.bind (iJ env t hs ht) (exprC _)
theorem Wf.node' {t : Tm} {d : Int} (h : Wf d t) : eB t = true ∧ d ≤ 64 ∧ t.kids.length ≤ 2000 ∧ ∀ u ∈ t.kids, Wf (d + 1) u := by
 obtain ⟨op, nm, m, ty, ks⟩ := t
 exact h.node
theorem I7 {op : Int} {nm : Str} {m : Int} {ty : Ty} {ks : List Tm} (h : eB (.mk op nm m ty ks) = true) : Bb ty = true := by
 simp only [eB, Bool.and_eq_true] at h
 have h5 := h.2.2.2
 unfold MP at h5
 simp only [Tm.op, Tm.ty] at h5
 cases h29 : op == 29 with
 | true =>
  rw [h29] at h5
  simp only [cond_true, Bool.and_eq_true] at h5
  exact (Kv h5.1).1
 | false =>
  rw [h29] at h5
  simp only [cond_false] at h5
  obtain ⟨k, n, l⟩ := ty
  unfold yj at h5
  simp only [Ty.kind, Ty.name, Ty.kids, Bool.and_eq_true, beq_iff_eq] at h5
  have : l = [] := List.length_eq_zero_iff.1 (by omega)
  subst this
  simp [Bb, Ie]
theorem Jy : ∀ t : Tm, ∀ d : Int, Wf d t → Ev (fun n => mh n t) t := Tm.ind fun op nm m ty ks ih d hw => by
 obtain ⟨hnode, _, hks, hkw⟩ := hw.node
 refine Ev.succ ?_
 show Ev (fun n => xB n (fun p0 => mh n p0) (fun p0 => vC n p0) (.mk op nm m ty ks)) _
 unfold xB
 simp only [Tm.op, Tm.name, Tm.n, Tm.ty, Tm.kids]
 refine Ev.bind (wI ty (I7 hnode)) ?_
 refine Ev.bind (a := ks) ?_ (Ev.ret _)
 refine Ev.succ ?_
 show Ev (fun n => uP n (fun p0 => mh n p0) (fun p0 => vC n p0) ks) _
 unfold uP
 have h := kD (ρ := List Tm) ks (fun n k i s => xq n (fun p0 => mh n p0) (fun p0 => vC n p0) ks k (s, i)) (fun n x s => (mh n x).bind fun y => app 104 s [y]) (fun x s => s ++ [x]) (fun s => s) (fun suf s => s.length + suf.length ≤ 2000)
  (fun n k i s => by
   show cond _ _ _ = _
   congr 1
   congr 1
   funext x
   simp only [Option.bind_assoc])
  (fun x suf s hx hs => by
   simp only [List.length_cons] at hs
   refine ⟨Ev.bind (ih x hx (d + 1) (hkw x hx)) ?_, by simp only [List.length_append, List.length_singleton]; omega⟩
   rw [gY (by simp; omega) (by omega)]
   exact Ev.ret _) (s0 := []) (by simp; omega)
 rw [AP, List.nil_append] at h
 exact Ev.bind h (Ev.ret _)
def vV : Tm := .mk 0 [] 0 bA []
theorem IK (t : Tm) : Tm.mk t.op t.name t.n (Ty.mk t.ty.kind t.ty.name t.ty.kids) t.kids = t := by obtain ⟨a, b, c, ⟨d, e, f⟩, g⟩ := t; rfl
theorem sS {env : Env} {t : Tm} (h : ((fE env t).2.2 != 0) = false) : bX env = true ∧ bV t = true ∧ ∃ ty, aY env [] t = .ok ty ∧ fE env t = (ty, [], 0) := by
 unfold fE at h ⊢
 cases hb : (bX env && bV t) with
 | false => rw [hb] at h; cases h
 | true =>
  rw [hb] at h
  simp only [Bool.and_eq_true] at hb
  simp only [cond_true] at h ⊢
  cases ht : aY env [] t with
  | er e p =>
   have he := Cw t [] e p ht
   rw [ht] at h
   simp only [DK, bne_eq_false_iff_eq] at h
   exact absurd h he
  | ok ty => exact ⟨hb.1, hb.2, ty, rfl, rfl⟩
mutual
theorem aey : ∀ (t : Tm) (d c d' c' : Int), (mf t d c).1 = true → d' ≤ d → c' ≤ c → (mf t d' c').1 = true ∧ (mf t d' c').2 - c' = (mf t d c).2 - c
 | .mk op nm m ty ks, d, c, d', c', h, hd, hc => by
  simp only [mf] at h ⊢
  cases hb : ((decide (c + 1 ≤ 2000) && decide (d ≤ 64)) && eB (.mk op nm m ty ks)) with
  | false => rw [hb] at h; cases h
  | true =>
   rw [hb] at h
   simp only [Bool.and_eq_true, decide_eq_true_eq] at hb
   have e : ((decide (c' + 1 ≤ 2000) && decide (d' ≤ 64)) && eB (.mk op nm m ty ks)) = true := by
    rw [decide_eq_true (show c' + 1 ≤ 2000 by omega), decide_eq_true (show d' ≤ 64 by omega), hb.2]
    rfl
   rw [e]
   simp only [cond_true] at h ⊢
   have := acg ks (d + 1) (c + 1) (d' + 1) (c' + 1) h (by omega) (by omega)
   exact ⟨this.1, by omega⟩
theorem acg : ∀ (ts : List Tm) (d c d' c' : Int), (iW ts d c).1 = true → d' ≤ d → c' ≤ c → (iW ts d' c').1 = true ∧ (iW ts d' c').2 - c' = (iW ts d c).2 - c
 | [], _, _, _, _, _, _, _ => by simp only [iW]; exact ⟨trivial, by omega⟩
 | t :: ts, d, c, d', c', h, hd, hc => by
  simp only [iW] at h ⊢
  cases hb : (mf t d c).1 with
  | false => rw [hb] at h; cases h
  | true =>
   rw [hb] at h
   simp only [cond_true] at h ⊢
   have h1 := aey t d c d' c' hb hd hc
   rw [h1.1]
   simp only [cond_true]
   have h2 := acg ts d _ d' (mf t d' c').2 h hd (by omega)
   exact ⟨h2.1, by omega⟩
end
theorem Wf.valid {d : Int} {t : Tm} (h : Wf d t) (hd : 1 ≤ d) : bV t = true := by
 obtain ⟨c, h0, h⟩ := h
 exact (aey t d c 1 0 h hd h0).1
def without (env : Env) (s : Str) : Env := ⟨env.carriers, env.names.filter fun d => !(d.name == s)⟩
theorem ze {s : Str} (h : ident s = true) : named s = true := by
 unfold named
 have : Cc s = s := by
  unfold Cc
  rw [if_neg]
  intro hl
  have hm := List.mem_of_getLast? hl
  have := DX h 39 hm
  revert this
  decide
 rw [this]
 exact h
def Kn (sc : List Decl) : Prop := ∀ d ∈ sc, Good d.ty ∧ bN d.ty = true
theorem Kn.g {sc : List Decl} (h : Kn sc) : GoodS sc := fun d hd => (h d hd).1
section
variable {env : Env} {sc : List Decl}
theorem NS {a b : Tm} {nm : Str} {i : Int} {l : List Ty} (h : bY env sc true nm i [a, b] = .ok l) : ∃ ta e tb, aY env sc a = .ok ta ∧ bL ta = some e ∧ aY env (⟨nm, e⟩ :: sc) b = .ok tb ∧ l = [ta, tb] := by
 simp only [bY] at h
 cases ha : aY env sc a with
 | er e p => rw [ha] at h; cases h
 | ok ta =>
  rw [ha] at h
  simp only [gD, cond_true] at h
  cases hs : bL ta with
  | none => rw [hs] at h; cases h
  | some e =>
   rw [hs] at h
   simp only [Option.map_some] at h
   cases hb : aY env (⟨nm, e⟩ :: sc) b with
   | er e' p => rw [hb] at h; cases h
   | ok tb => rw [hb] at h; cases h; exact ⟨ta, e, tb, rfl, hs, hb, rfl⟩
end
end Abs
end Go.Proofs.YtiiaccpcoclklaaGreat
namespace Go.Proofs.YtiiaccpcoclklaaGreat
namespace Abs
open Go
mutual
def bW : Tm → List Str → List Str
 | .mk op nm _ _ ks, b => cond (op == 20) (cond (b.any fun x => x == nm) [] [nm]) (rT (bg op) nm 0 ks b)
def rT : Bool → Str → Int → List Tm → List Str → List Str
 | _, _, _, [], _ => []
 | bd, nm, i, t :: ts, b => bW t (cond (bd && i == 1) (b ++ [nm]) b) ++ rT bd nm (i + 1) ts b
end
mutual
theorem abk : ∀ (t : Tm) (d c : Int) (b : List Str), (mf t d c).1 = true → ((bW t b).length : Int) + c ≤ (mf t d c).2
 | .mk op nm m ty ks, d, c, b, h => by
  simp only [mf] at h ⊢
  cases hb : ((decide (c + 1 ≤ 2000) && decide (d ≤ 64)) && eB (.mk op nm m ty ks)) with
  | false => rw [hb] at h; cases h
  | true =>
   rw [hb] at h
   simp only [cond_true] at h ⊢
   have hk := ZK ks (d + 1) (c + 1) (bg op) nm 0 b h
   have hle := (Vz ks (d + 1) (c + 1) h).1
   simp only [bW]
   cases op == 20 with
   | true =>
    cases b.any fun x => x == nm with
    | true => simp only [cond_true, List.length_nil]; omega
    | false => simp only [cond_true, cond_false, List.length_singleton]; omega
   | false => simp only [cond_false]; omega
theorem ZK : ∀ (ts : List Tm) (d c : Int) (bd : Bool) (nm : Str) (i : Int) (b : List Str), (iW ts d c).1 = true → ((rT bd nm i ts b).length : Int) + c ≤ (iW ts d c).2
 | [], d, c, bd, nm, i, b, _ => by simp [rT, iW]
 | t :: ts, d, c, bd, nm, i, b, h => by
  simp only [iW] at h ⊢
  cases hb : (mf t d c).1 with
  | false => rw [hb] at h; cases h
  | true =>
   rw [hb] at h
   simp only [cond_true] at h ⊢
   have h1 := abk t d c (cond (bd && i == 1) (b ++ [nm]) b) hb
   have h2 := ZK ts d _ bd nm (i + 1) b h
   simp only [rT, List.length_append, Int.natCast_add]
   omega
end
theorem Wf.Im {d : Int} {t : Tm} (h : Wf d t) (b : List Str) : (bW t b).length ≤ 2000 := by
 obtain ⟨c, h0, h⟩ := h
 have h1 := abk t d c b h
 have h2 := (J7 t d c h).2
 omega
theorem adP (n : Nat) (b : List Str) (nm : Str) (h : b.length ≤ 1000) : Ac n b nm = some (b ++ [nm]) := by
 unfold Ac
 rw [gY (by simp; omega) (by omega)]
 simp only [Option.bind_some, List.nil_append]
 rw [gY (by simp; omega) (by omega)]
 rfl
def stF (op : Int) (nm : Str) (b : List Str) (i : Int) (x : Tm) (s : List Str) : LR (List Str) (List Str) := .nx (s ++ bW x (cond (bg op && i == 1) (b ++ [nm]) b))
theorem adF (op : Int) (nm : Str) (b : List Str) : ∀ (ts : List Tm) (i : Int) (acc : List Str), dZ (stF op nm b) (fun s => s) i ts acc = .nx (acc ++ rT (bg op) nm i ts b)
 | [], i, acc => by simp [dZ, rT]
 | t :: ts, i, acc => by
  simp only [dZ, stF, rT]
  have := adF op nm b ts (i + 1) (acc ++ bW t (cond (bg op && i == 1) (b ++ [nm]) b))
  rw [this, List.append_assoc]
theorem Pf : ∀ t : Tm, ∀ (d : Int) (b : List Str), Wf d t → (b.length : Int) < d → Ev (fun n => oG n t b) (bW t b) := Tm.ind fun op nm m ty ks ih d b hw hb => by
 obtain ⟨hnode, hd, hks, hkw⟩ := hw.node
 have hfl := hw.Im b
 refine Ev.succ ?_
 show Ev (fun n => xu n (fun p0 p1 => oG n p0 p1) (.mk op nm m ty ks) b) _
 unfold xu
 simp only [Tm.op, Tm.name, bW] at hfl ⊢
 cases h20 : (op == 20) with
 | true =>
  simp only [cond_true]
  refine Ev.bind (rH nm b) ?_
  cases b.any fun x => x == nm
  ·exact Ev.ret _
  ·exact Ev.ret _
 | false =>
  rw [h20] at hfl
  simp only [cond_false] at hfl ⊢
  have hloop := yA ks (fun n k i (s : List Str) => Bu n (fun p0 p1 => oG n p0 p1) (.mk op nm m ty ks) b k (s, i))
   (fun n i x s => ((((((kI n op).bind fun (x6 : Bool) => (cond x6 (some (i == 1)) (some false))) : Option Bool).bind fun (s4 : Bool) => (cond s4 ((Ac n b nm).bind fun (x5 : List Str) => some x5) (some b))) : Option (List Str)).bind fun (s3 : List Str) => ((oG n x s3).bind fun (x3 : List Str) => ((app 16 s x3).bind fun (x4 : List Str) => some (.nx x4)))))
   (stF op nm b) (fun s => s) (fun i suf s => s.length + (rT (bg op) nm i suf b).length ≤ 2000)
   (fun n k s => by
    show cond (decide ((ks.length : Int) < (ks.length : Int))) _ _ = _
    rw [decide_eq_false (by omega)]
    rfl)
   (fun n k i x s hx hi => by
    show cond (decide (i < (ks.length : Int))) _ _ = _
    rw [hi]
    simp only [cond_true, Tm.op, Tm.name, Tm.kids, hx, Option.bind_some]
    conv => rhs; rw [Option.bind_assoc]
    congr 1
    funext s3
    conv => rhs; rw [Option.bind_assoc]
    congr 1
    funext x3
    conv => rhs; rw [Option.bind_assoc]
    rfl)
   (fun i x suf s hx hI hidx => by
    simp only [rT, List.length_append] at hI
    refine ⟨?_, fun s' hs' => ?_⟩
    ·refine Ev.bind (a := cond (bg op && i == 1) (b ++ [nm]) b) ?_ ?_
     ·simp only [xA, Option.bind_some]
      refine Ev.bind (a := bg op && i == 1) ?_ ?_
      ·cases bg op
       ·exact Ev.ret _
       ·exact Ev.ret _
      ·cases (bg op && i == 1) with
       | false => exact Ev.ret _
       | true =>
        simp only [cond_true]
        simp only [adP _ b nm (show b.length ≤ 1000 by omega)]
        exact Ev.ret _
     ·have hl : ((cond (bg op && i == 1) (b ++ [nm]) b).length : Int) < d + 1 := by
       cases (bg op && i == 1) with
       | false => simp only [cond_false]; omega
       | true => simp only [cond_true, List.length_append, List.length_singleton, Int.natCast_add, Int.natCast_one]; omega
      refine Ev.bind (ih x hx (d + 1) _ (hkw x hx) hl) ?_
      rw [gY (by omega) (by omega)]
      exact Ev.ret _
    ·cases hs'
     simp only [List.length_append]
     omega) (s0 := []) (by simpa using hfl)
  rw [adF, List.nil_append] at hloop
  exact Ev.bind hloop (Ev.ret _)
end Abs
end Go.Proofs.YtiiaccpcoclklaaGreat
namespace Go.Proofs.YtiiaccpcoclklaaGreat
namespace Abs
open Go
mutual
def qo (x : Str) : Tm → Bool
 | .mk op nm _ _ ks => cond (op == 20) (nm == x) (KS x (bg op) nm 0 ks)
def KS (x : Str) : Bool → Str → Int → List Tm → Bool
 | _, _, _, [] => false
 | bd, nm, i, t :: ts => (!((bd && i == 1) && nm == x) && qo x t) || KS x bd nm (i + 1) ts
end
mutual
theorem ab6 (x : Str) : ∀ (t : Tm) (b : List Str), x ∈ bW t b ↔ (qo x t = true ∧ x ∉ b)
 | .mk op nm m ty ks, b => by
  simp only [bW, qo]
  cases h20 : (op == 20) with
  | true =>
   simp only [cond_true, beq_iff_eq]
   cases hb : b.any fun y => y == nm with
   | true =>
    obtain ⟨y, hy, e⟩ := List.any_eq_true.1 hb
    have e' : y = nm := by simpa using e
    subst e'
    simp only [cond_true, List.not_mem_nil, false_iff, not_and]
    rintro rfl h
    exact h hy
   | false =>
    simp only [cond_false, List.mem_singleton]
    have hn : nm ∉ b := fun h => by
     have := (List.any_eq_false.1 hb) nm h
     simp at this
    constructor
    ·rintro rfl; exact ⟨rfl, hn⟩
    ·rintro ⟨e, _⟩; exact e.symm
  | false => simp only [cond_false]; exact WB x ks (bg op) nm 0 b
theorem WB (x : Str) : ∀ (ts : List Tm) (bd : Bool) (nm : Str) (i : Int) (b : List Str), x ∈ rT bd nm i ts b ↔ (KS x bd nm i ts = true ∧ x ∉ b)
 | [], bd, nm, i, b => by simp [rT, KS]
 | t :: ts, bd, nm, i, b => by
  simp only [rT, KS, List.mem_append, ab6 x t, WB x ts bd nm (i + 1) b]
  cases hb : (bd && i == 1) with
  | true =>
   simp only [cond_true, Bool.true_and, List.mem_append, List.mem_singleton, Bool.or_eq_true, Bool.and_eq_true, Bool.not_eq_true', beq_eq_false_iff_ne]
   constructor
   ·rintro (⟨h1, h2⟩ | ⟨h1, h2⟩)
    ·exact ⟨.inl ⟨fun e => h2 (.inr e.symm), h1⟩, fun h => h2 (.inl h)⟩
    ·exact ⟨.inr h1, h2⟩
   ·rintro ⟨⟨h1, h2⟩ | h1, h3⟩
    ·exact .inl ⟨h2, fun h => h.elim h3 fun e => h1 e.symm⟩
    ·exact .inr ⟨h1, h3⟩
  | false =>
   simp only [cond_false, Bool.false_and, Bool.not_false, Bool.true_and, Bool.or_eq_true]
   constructor
   ·rintro (⟨h1, h2⟩ | ⟨h1, h2⟩)
    ·exact ⟨.inl h1, h2⟩
    ·exact ⟨.inr h1, h2⟩
   ·rintro ⟨h1 | h1, h3⟩
    ·exact .inl ⟨h1, h3⟩
    ·exact .inr ⟨h1, h3⟩
end
theorem Ox {x : Str} {t : Tm} : x ∈ bW t [] ↔ qo x t = true := by rw [ab6]; simp
theorem V9 (x : Str) (nm : Str) : ∀ (ks : List Tm) (i : Int), KS x false nm i ks = true ↔ ∃ k ∈ ks, qo x k = true
 | [], i => by simp [KS]
 | t :: ts, i => by simp [KS, V9 x nm ts (i + 1)]
theorem JO {x : Str} {op : Int} (h20 : (op == 20) = false) (hb : bg op = false) {nm : Str} {m : Int} {ty : Ty} {ks : List Tm} : qo x (.mk op nm m ty ks) = true ↔ ∃ k ∈ ks, qo x k = true := by
 simp only [qo, h20, hb, cond_false]
 exact V9 x nm ks 0
theorem CO {op : Int} (hb : bg op = true) : (op == 20) = false ∧ (op == 29) = false := by
 simp only [bg, Bool.or_eq_true, beq_iff_eq] at hb
 rcases hb with rfl | rfl | rfl | rfl <;> exact ⟨rfl, rfl⟩
theorem xg {x : Str} {op : Int} (hb : bg op = true) {nm : Str} {m : Int} {ty : Ty} {p q : Tm} : qo x (.mk op nm m ty [p, q]) = true ↔ (qo x p = true ∨ (x ≠ nm ∧ qo x q = true)) := by
 simp only [qo, (CO hb).1, cond_false, hb, KS, Bool.true_and, show ((0 : Int) == 1) = false from rfl, show ((0 : Int) + 1 == 1) = true from rfl, Bool.false_and, Bool.not_false, Bool.or_false, Bool.or_eq_true, Bool.and_eq_true, Bool.not_eq_true', beq_eq_false_iff_ne]
 exact or_congr Iff.rfl (and_congr ⟨fun h e => h e.symm, fun h e => h e.symm⟩ Iff.rfl)
theorem oK (env : Env) (d : Decl) (sc : List Decl) (s : Str) : jl env (d :: sc) s = if d.name == s then some d.ty else jl env sc s := by
 unfold jl
 rw [List.find?_cons]
 cases d.name == s <;> rfl
theorem Vh {env : Env} {sc sc' : List Decl} : ∀ {ks : List Tm}, (∀ k ∈ ks, aY env sc k = aY env sc' k) → ∀ (nm : Str) (i : Int), bY env sc false nm i ks = bY env sc' false nm i ks
 | [], _, nm, i => by simp only [bY]
 | k :: ks, h, nm, i => by
  simp only [bY]
  rw [h k (by simp)]
  cases aY env sc' k with
  | er e p => rfl
  | ok ty =>
   simp only [gD, cond_false]
   rw [Vh (fun k hk => h k (by simp [hk]))]
theorem Us {env : Env} {sc sc' : List Decl} {nm nm' : Str} {p p' q q' : Tm} {i : Int} (h1 : aY env sc p = aY env sc' p') (h2 : ∀ e, aY env (⟨nm, e⟩ :: sc) q = aY env (⟨nm', e⟩ :: sc') q') : bY env sc true nm i [p, q] = bY env sc' true nm' i [p', q'] := by
 simp only [bY]
 rw [h1]
 cases aY env sc' p' with
 | er e p => rfl
 | ok ty =>
  simp only [gD, cond_true]
  cases bL ty with
  | none => rfl
  | some e =>
   simp only [Option.map_some]
   rw [h2]
   cases aY env (⟨nm', e⟩ :: sc') q' <;> rfl
theorem aiA {env : Env} : ∀ t : Tm, ∀ (d : Int), Wf d t → ∀ (sc sc' : List Decl), (∀ x, qo x t = true → jl env sc x = jl env sc' x) → aY env sc t = aY env sc' t := Tm.ind fun op nm m ty ks ih d hw sc sc' h => by
 obtain ⟨hnode, _, hks, hkw⟩ := hw.node
 obtain ⟨hop, h20k, _, hlen, hbk⟩ := jM hnode
 simp only [aY]
 cases h20 : (op == 20) with
 | true =>
  simp only [cond_true]
  rw [h nm (by simp [qo, h20])]
 | false =>
  simp only [cond_false]
  cases hb : bg op with
  | false =>
   rw [Vh fun k hk => ih k hk (d + 1) (hkw k hk) sc sc' fun x hx => h x ((JO h20 hb).2 ⟨k, hk, hx⟩)]
  | true =>
   obtain ⟨p, q, rfl⟩ := hbk hb
   rw [Us (ih p (by simp) (d + 1) (hkw p (by simp)) sc sc' fun x hx => h x ((xg hb).2 (.inl hx))) fun e => ih q (by simp) (d + 1) (hkw q (by simp)) _ _ fun x hx => ?_]
   rw [oK, oK]
   cases hx' : nm == x with
   | true => rfl
   | false => exact h x ((xg hb).2 (.inr ⟨fun e => by simp [e] at hx', hx⟩))
def qE (s : Str) : Tm := .mk 20 s 0 bA []
theorem acu (x s : Str) : qo x (qE s) = (s == x) := rfl
inductive SubT : (Str → Option Tm) → Tm → Tm → Prop where
 | rep {σ : Str → Option Tm} {nm : Str} {m : Int} {ty : Ty} {ks : List Tm} {u : Tm} (h : σ nm = some u) : SubT σ (.mk 20 nm m ty ks) u
 | keep {σ : Str → Option Tm} {nm : Str} {m : Int} {ty : Ty} {ks : List Tm} (h : σ nm = none) : SubT σ (.mk 20 nm m ty ks) (.mk 20 nm m ty ks)
 | node {σ : Str → Option Tm} {op : Int} {nm : Str} {m : Int} {ty : Ty} {ks : List Tm} (g : Tm → Tm) (h20 : (op == 20) = false) (hb : bg op = false) (h : ∀ k ∈ ks, SubT σ k (g k)) : SubT σ (.mk op nm m ty ks) (.mk op nm m ty (ks.map g))
 | bind {σ σ' : Str → Option Tm} {op : Int} {nm nm' : Str} {m : Int} {ty : Ty} {p q p' q' : Tm} (hb : bg op = true) (hp : SubT σ p p') (hq : SubT σ' q q') (hi : ident nm = true → ident nm' = true)
   (h1 : σ' nm = some (qE nm') ∨ (nm' = nm ∧ σ' nm = none)) (h2 : ∀ x, qo x q = true → x ≠ nm → σ' x = σ x ∧ match σ x with | some u => qo nm' u = false | none => x ≠ nm') : SubT σ (.mk op nm m ty [p, q]) (.mk op nm' m ty [p', q'])
def Small (u : Tm) : Prop := (∃ d, Wf d u) ∨ ∃ s, u = qE s
theorem ae1 {env : Env} {u : Tm} (hu : Small u) {sc sc' : List Decl} (h : ∀ x, qo x u = true → jl env sc x = jl env sc' x) : aY env sc u = aY env sc' u := by
 rcases hu with ⟨d, hw⟩ | ⟨s, rfl⟩
 ·exact aiA u d hw sc sc' h
 ·simp only [qE, aY, show ((20 : Int) == 20) = true from rfl, cond_true]
  rw [h s (by simp [acu])]
def Fits (env : Env) (σ : Str → Option Tm) (sc sc' : List Decl) (x : Str) : Prop := match σ x with
 | some u => Small u ∧ ∃ T, jl env sc x = some T ∧ aY env sc' u = .ok T
 | none => jl env sc' x = jl env sc x
theorem TW {s : Str} (h : named s = true) : eB (qE s) = true := by
 simp only [eB, qE, uD, nW, yE, MP, Tm.op, Tm.name, Tm.n, Tm.ty, Tm.kids]
 simp [dw, h, yj, bA, Ty.kind, Ty.name, Ty.kids]
theorem ajd {s : Str} (h : named s = true) : Wf 1 (qE s) := ⟨0, by omega, by
 have := TW h
 unfold qE at this ⊢
 simp only [mf, this]
 rfl⟩
theorem abB {env : Env} {sc sc' : List Decl} {g : Tm → Tm} : ∀ {ks : List Tm}, (∀ k ∈ ks, ∀ ty, aY env sc k = .ok ty → aY env sc' (g k) = .ok ty) → ∀ (nm : Str) (i : Int) (l : List Ty), bY env sc false nm i ks = .ok l → bY env sc' false nm i (ks.map g) = .ok l
 | [], _, nm, i, l, h => by
  simp only [bY] at h
  simp only [List.map_nil, bY]
  exact h
 | k :: ks, hk, nm, i, l, h => by
  simp only [bY] at h
  cases ha : aY env sc k with
  | er e p => rw [ha] at h; cases h
  | ok ta =>
   rw [ha] at h
   simp only [gD, cond_false] at h
   cases hb : bY env sc false nm (i + 1) ks with
   | er e p => rw [hb] at h; cases h
   | ok l' =>
    rw [hb] at h
    simp only [List.map_cons, bY, hk k (by simp) ta ha, gD, cond_false, abB (fun k h => hk k (by simp [h])) nm (i + 1) l' hb]
    exact h
theorem VI {env : Env} {sc : List Decl} {a b : Tm} {nm : Str} {i : Int} {ta e tb : Ty} (ha : aY env sc a = .ok ta) (hs : bL ta = some e) (hb : aY env (⟨nm, e⟩ :: sc) b = .ok tb) : bY env sc true nm i [a, b] = .ok [ta, tb] := by
 simp only [bY, ha, gD, cond_true, hs, Option.map_some, hb, cond_false]
theorem aly {env : Env} {σ : Str → Option Tm} {t t' : Tm} (h : SubT σ t t') : ∀ (sc sc' : List Decl) (ty : Ty), (∀ x, qo x t = true → Fits env σ sc sc' x) → aY env sc t = .ok ty → aY env sc' t' = .ok ty := by
 induction h with
 | @rep σ nm m ty ks u h =>
  intro sc sc' T hf ht
  have := hf nm (by simp [qo])
  simp only [Fits, h] at this
  obtain ⟨_, T', h1, h2⟩ := this
  simp only [aY, show ((20 : Int) == 20) = true from rfl, cond_true, h1] at ht
  cases ht
  exact h2
 | @keep σ nm m ty ks h =>
  intro sc sc' T hf ht
  have := hf nm (by simp [qo])
  simp only [Fits, h] at this
  simp only [aY, show ((20 : Int) == 20) = true from rfl, cond_true, this] at ht ⊢
  exact ht
 | @node σ op nm m ty ks g h20 hb h ih =>
  intro sc sc' T hf ht
  simp only [aY, h20, cond_false, hb] at ht ⊢
  cases h29 : (op == 29 && !(knows env ty)) with
  | true => rw [h29] at ht; cases ht
  | false =>
   rw [h29] at ht
   simp only [cond_false] at ht ⊢
   cases hk : bY env sc false nm 0 ks with
   | er e p => rw [hk] at ht; cases ht
   | ok l =>
    rw [abB (fun k hk' ty' => ih k hk' sc sc' ty' fun x hx => hf x ((JO h20 hb).2 ⟨k, hk', hx⟩)) nm 0 l hk]
    rw [hk] at ht
    exact ht
 | @bind σ σ' op nm nm' m ty p q p' q' hb hp hq hi h1 h2 ihp ihq =>
  intro sc sc' T hf ht
  obtain ⟨h20, h29⟩ := CO hb
  simp only [aY, h20, h29, cond_false, hb, Bool.false_and] at ht ⊢
  cases hk : bY env sc true nm 0 [p, q] with
  | er e p => rw [hk] at ht; cases ht
  | ok l =>
   rw [hk] at ht
   obtain ⟨ta, e, tb, ga, gs, gb, rfl⟩ := NS hk
   have a1 := ihp sc sc' ta (fun x hx => hf x ((xg hb).2 (.inl hx))) ga
   have a2 := ihq (⟨nm, e⟩ :: sc) (⟨nm', e⟩ :: sc') tb (fun x hx => by
    by_cases hx' : x = nm
    ·subst hx'
     unfold Fits
     rcases h1 with h1 | ⟨rfl, h1⟩
     ·rw [h1]
      refine ⟨.inr ⟨nm', rfl⟩, e, by rw [oK]; simp, ?_⟩
      ·simp only [qE, aY, show ((20 : Int) == 20) = true from rfl, cond_true, oK]
       simp
     ·rw [h1]
      simp only [oK]
      simp
    ·obtain ⟨g1, g2⟩ := h2 x hx hx'
     have hfx := hf x ((xg hb).2 (.inr ⟨hx', hx⟩))
     unfold Fits at hfx ⊢
     rw [g1]
     cases hσ : σ x with
     | some u =>
      rw [hσ] at hfx g2
      simp only at hfx g2 ⊢
      obtain ⟨hw, T, q1, q2⟩ := hfx
      refine ⟨hw, T, ?_, ?_⟩
      ·rw [oK, if_neg (by simpa using fun e => hx' e.symm)]; exact q1
      ·rw [← q2]
       refine ae1 hw fun y hy => ?_
       rw [oK, if_neg]
       intro e
       have : nm' = y := by simpa using e
       subst this
       rw [g2] at hy
       cases hy
     | none =>
      rw [hσ] at hfx g2
      simp only at hfx g2 ⊢
      rw [oK, oK, if_neg (show ¬(nm' == x) = true by simpa using fun e => g2 e.symm), if_neg (show ¬(nm == x) = true by simpa using fun e => hx' e.symm)]
      exact hfx) gb
   rw [VI a1 gs a2]
   exact ht
end Abs
end Go.Proofs.YtiiaccpcoclklaaGreat
namespace Go.Proofs.YtiiaccpcoclklaaGreat
namespace Abs
open Go
mutual
def xR : Tm → Int
 | .mk _ _ _ _ ks => 1 + EJ ks
def EJ : List Tm → Int
 | [] => 0
 | t :: ts => xR t + EJ ts
end
mutual
def uw : Tm → Int
 | .mk _ _ _ _ ks => 1 + BK ks
def BK : List Tm → Int
 | [] => 0
 | t :: ts => max (uw t) (BK ts)
end
mutual
def DU : Tm → Bool
 | .mk op nm m ty ks => eB (.mk op nm m ty ks) && BZ ks
def BZ : List Tm → Bool
 | [] => true
 | t :: ts => DU t && BZ ts
end
mutual
theorem EC : ∀ t : Tm, 1 ≤ xR t ∧ 1 ≤ uw t
 | .mk _ _ _ _ ks => by have := JB ks; simp only [xR, uw]; omega
theorem JB : ∀ ts : List Tm, 0 ≤ EJ ts ∧ 0 ≤ BK ts
 | [] => by simp [EJ, BK]
 | t :: ts => by have := EC t; have := JB ts; simp only [EJ, BK]; omega
end
mutual
theorem aaI : ∀ (t : Tm) (d c : Int), DU t = true → c + xR t ≤ 2000 → d + uw t ≤ 65 → mf t d c = (true, c + xR t)
 | .mk op nm m ty ks, d, c, h, hs, hd => by
  simp only [DU, Bool.and_eq_true] at h
  simp only [xR, uw] at hs hd ⊢
  have := JB ks
  simp only [mf, h.1, Bool.and_true]
  rw [show (decide (c + 1 ≤ 2000) && decide (d ≤ 64)) = true by simp; omega]
  simp only [cond_true]
  rw [agI ks (d + 1) (c + 1) h.2 (by omega) (by omega)]
  rw [Int.add_assoc]
theorem agI : ∀ (ts : List Tm) (d c : Int), BZ ts = true → c + EJ ts ≤ 2000 → d + BK ts ≤ 65 → iW ts d c = (true, c + EJ ts)
 | [], d, c, _, _, _ => by simp [iW, EJ]
 | t :: ts, d, c, h, hs, hd => by
  simp only [BZ, Bool.and_eq_true] at h
  simp only [EJ, BK] at hs hd ⊢
  have := JB ts
  have := EC t
  simp only [iW]
  rw [aaI t d c h.1 (by omega) (by omega)]
  simp only [cond_true]
  rw [agI ts d _ h.2 (by omega) (by omega), Int.add_assoc]
end
mutual
theorem agc : ∀ (t : Tm) (d c : Int), (mf t d c).1 = true → DU t = true ∧ (mf t d c).2 = c + xR t ∧ c + xR t ≤ 2000 ∧ d + uw t ≤ 65
 | .mk op nm m ty ks, d, c, h => by
  simp only [mf] at h ⊢
  cases hb : ((decide (c + 1 ≤ 2000) && decide (d ≤ 64)) && eB (.mk op nm m ty ks)) with
  | false => rw [hb] at h; cases h
  | true =>
   rw [hb] at h
   simp only [cond_true] at h ⊢
   obtain ⟨g1, g2, g3, g4⟩ := aen ks (d + 1) (c + 1) h
   simp only [Bool.and_eq_true, decide_eq_true_eq] at hb
   simp only [DU, xR, uw, Bool.and_eq_true]
   refine ⟨⟨hb.2, g1⟩, by omega, by omega, ?_⟩
   rcases g4 with g4 | rfl
   ·omega
   ·simp only [BK]; omega
theorem aen : ∀ (ts : List Tm) (d c : Int), (iW ts d c).1 = true → BZ ts = true ∧ (iW ts d c).2 = c + EJ ts ∧ (c ≤ 2000 → c + EJ ts ≤ 2000) ∧ (d + BK ts ≤ 65 ∨ ts = [])
 | [], d, c, _ => by simp [iW, EJ, BZ]
 | t :: ts, d, c, h => by
  simp only [iW] at h ⊢
  cases hb : (mf t d c).1 with
  | false => rw [hb] at h; cases h
  | true =>
   rw [hb] at h
   simp only [cond_true] at h ⊢
   obtain ⟨g1, g2, g3, g4⟩ := agc t d c hb
   obtain ⟨q1, q2, q3, q4⟩ := aen ts d _ h
   have := EC t
   simp only [BZ, EJ, BK, Bool.and_eq_true]
   refine ⟨⟨g1, q1⟩, by omega, fun _ => by omega, .inl ?_⟩
   rcases q4 with q4 | rfl
   ·omega
   ·simp only [BK]; omega
end
theorem xG {t : Tm} (h : bV t = true) : DU t = true ∧ (mf t 1 0).2 = xR t ∧ xR t ≤ 2000 ∧ uw t ≤ 64 := by
 obtain ⟨g1, g2, g3, g4⟩ := agc t 1 0 h
 exact ⟨g1, by omega, by omega, by omega⟩
theorem abn : ∀ {ks : List Tm}, BZ ks = true → ∀ k ∈ ks, DU k = true
 | [], _, k, h => by cases h
 | t :: ts, h, k, hk => by
  simp only [BZ, Bool.and_eq_true] at h
  rcases List.mem_cons.1 hk with rfl | hk
  ·exact h.1
  ·exact abn h.2 k hk
mutual
def wg (l : Str → Option Tm) : Tm → List Str → Int → Int → Option Int
 | .mk op nm _ _ ks, b, n, at_ => match cond (op == 20 && !(b.any fun y => y == nm)) (l nm) none with
  | some u => cond (decide (2000 < n + xR u) || decide (64 < at_ + uw u - 1)) none (some (n + xR u))
  | none => cond (decide (2000 < n + 1) || decide (64 < at_)) none (IZ l (bg op) nm 0 ks b (n + 1) (at_ + 1))
def IZ (l : Str → Option Tm) : Bool → Str → Int → List Tm → List Str → Int → Int → Option Int
 | _, _, _, [], _, n, _ => some n
 | bd, nm, i, t :: ts, b, n, at_ => (wg l t (cond (bd && i == 1) (b ++ [nm]) b) n at_).bind fun n' => IZ l bd nm (i + 1) ts b n' at_
end
def Same (l σ : Str → Option Tm) (b : List Str) (x : Str) : Prop := match σ x with
 | some u => (x ∉ b ∧ l x = some u ∧ DU u = true) ∨ ((x ∈ b ∨ l x = none) ∧ ∃ s, u = qE s ∧ named s = true)
 | none => x ∈ b ∨ l x = none
theorem adz {l : Str → Option Tm} {g : Tm → Tm} {b : List Str} {d : Int} {nm : Str} : ∀ {ks : List Tm}, (∀ k ∈ ks, ∀ n m, wg l k b n d = some m → mf (g k) d n = (true, m)) → ∀ (i n m : Int), IZ l false nm i ks b n d = some m → iW (ks.map g) d n = (true, m)
 | [], _, i, n, m, h => by simp only [IZ] at h; cases h; rfl
 | k :: ks, hk, i, n, m, h => by
  simp only [IZ, Bool.false_and, cond_false] at h
  obtain ⟨n', h1, h2⟩ := ob h
  simp only [List.map_cons, iW]
  rw [hk k (by simp) n n' h1]
  simp only [cond_true]
  exact adz (fun k h => hk k (by simp [h])) (i + 1) n' m h2
theorem JG {b : List Str} {nm : Str} (h : nm ∉ b) : (b.any fun y => y == nm) = false := by
 rw [List.any_eq_false]
 intro y hy e
 have e' : y = nm := by simpa using e
 exact h (e' ▸ hy)
theorem Ml {b : List Str} {nm : Str} (h : nm ∈ b) : (b.any fun y => y == nm) = true := List.any_eq_true.2 ⟨nm, h, by simp⟩
theorem afg {op : Int} {nm : Str} {m : Int} {ty : Ty} {ks ks' : List Tm} (h : eB (.mk op nm m ty ks) = true) (e : ks'.length = ks.length) : eB (.mk op nm m ty ks') = true := by
 simp only [eB, uD, nW, yE, MP, Tm.op, Tm.name, Tm.n, Tm.ty, Tm.kids, e] at h ⊢
 exact h
theorem afU {op : Int} (hb : bg op = true) {nm nm' : Str} {m : Int} {ty : Ty} {ks ks' : List Tm} (h : eB (.mk op nm m ty ks) = true) (e : ks'.length = ks.length) (hi : ident nm = true → ident nm' = true) : eB (.mk op nm' m ty ks') = true := by
 simp only [eB, uD, nW, yE, MP, Tm.op, Tm.name, Tm.n, Tm.ty, Tm.kids, e, hb, (CO hb).1, cond_false, cond_true, Bool.and_eq_true] at h ⊢
 exact ⟨h.1, hi h.2.1, h.2.2⟩
theorem alx {σ : Str → Option Tm} {t t' : Tm} (h : SubT σ t t') : ∀ (l : Str → Option Tm) (b : List Str) (n d m : Int), DU t = true → (∀ x, qo x t = true → Same l σ b x) → wg l t b n d = some m → mf t' d n = (true, m) := by
 have rest : ∀ {nm : Str} {v : Int} {ty : Ty} {ks : List Tm} {l : Str → Option Tm} {b : List Str} {n d m : Int}, DU (.mk 20 nm v ty ks) = true → (nm ∈ b ∨ l nm = none) → wg l (.mk 20 nm v ty ks) b n d = some m → ks = [] ∧ n + 1 ≤ 2000 ∧ d ≤ 64 ∧ m = n + 1 := by
  intro nm v ty ks l b n d m hk hn hw
  simp only [DU, Bool.and_eq_true] at hk
  have hk0 := (jM hk.1).2.1 rfl
  subst hk0
  have e : cond ((20 : Int) == 20 && !(b.any fun y => y == nm)) (l nm) none = none := by
   rcases hn with hn | hn
   ·rw [Ml hn]; rfl
   ·rw [hn]; cases (b.any fun y => y == nm) <;> rfl
  simp only [wg, e, IZ] at hw
  cases hc : (decide (2000 < n + 1) || decide (64 < d)) with
  | true => rw [hc] at hw; cases hw
  | false =>
   rw [hc] at hw
   simp only [Bool.or_eq_false_iff, decide_eq_false_iff_not] at hc
   simp only [cond_false, Option.some.injEq] at hw
   exact ⟨rfl, by omega, by omega, by omega⟩
 induction h with
 | @rep σ nm v ty ks u h =>
  intro l b n d m hk hs hw
  have hx := hs nm (by simp [qo])
  simp only [Same, h] at hx
  rcases hx with ⟨h1, h2, h3⟩ | ⟨h1, s, rfl, h3⟩
  ·simp only [wg, JG h1, h2, show ((20 : Int) == 20) = true from rfl, Bool.not_false, Bool.and_true, cond_true] at hw
   cases hc : (decide (2000 < n + xR u) || decide (64 < d + uw u - 1)) with
   | true => rw [hc] at hw; cases hw
   | false =>
    rw [hc] at hw
    simp only [Bool.or_eq_false_iff, decide_eq_false_iff_not] at hc
    simp only [cond_false, Option.some.injEq] at hw
    rw [aaI u d n h3 (by omega) (by omega), hw]
  ·obtain ⟨_, g1, g2, rfl⟩ := rest hk h1 hw
   exact aaI (qE s) d n (by simp only [DU, qE, BZ]; simpa [qE] using TW h3) (by simp only [qE, xR, EJ]; omega) (by simp only [qE, uw, BK]; omega)
 | @keep σ nm v ty ks h =>
  intro l b n d m hk hs hw
  have hx := hs nm (by simp [qo])
  simp only [Same, h] at hx
  obtain ⟨rfl, g1, g2, rfl⟩ := rest hk hx hw
  exact aaI _ d n hk (by simp only [xR, EJ]; omega) (by simp only [uw, BK]; omega)
 | @node σ op nm v ty ks g h20 hb h ih =>
  intro l b n d m hk hs hw
  simp only [DU, Bool.and_eq_true] at hk
  simp only [wg, h20, Bool.false_and, cond_false, hb] at hw
  cases hc : (decide (2000 < n + 1) || decide (64 < d)) with
  | true => rw [hc] at hw; cases hw
  | false =>
   rw [hc] at hw
   simp only [Bool.or_eq_false_iff, decide_eq_false_iff_not] at hc
   simp only [cond_false] at hw
   simp only [mf]
   rw [afg hk.1 (List.length_map ..), show (decide (n + 1 ≤ 2000) && decide (d ≤ 64)) = true by simp; omega]
   simp only [Bool.and_self, cond_true]
   exact adz (fun k hk' n m hwk => ih k hk' l b n (d + 1) m (abn hk.2 k hk') (fun x hx => hs x ((JO h20 hb).2 ⟨k, hk', hx⟩)) hwk) 0 (n + 1) m hw
 | @bind σ σ' op nm nm' v ty p q p' q' hb hp hq hi h1 h2 ihp ihq =>
  intro l b n d m hk hs hw
  simp only [DU, BZ, Bool.and_eq_true, Bool.and_true] at hk
  obtain ⟨hn, hkp, hkq⟩ := hk
  have hnm : ident nm = true := by
   simp only [eB, nW, Tm.op, Tm.name, hb, (CO hb).1, cond_false, cond_true, Bool.and_eq_true] at hn
   exact hn.2.1
  simp only [wg, (CO hb).1, Bool.false_and, cond_false, hb] at hw
  cases hc : (decide (2000 < n + 1) || decide (64 < d)) with
  | true => rw [hc] at hw; cases hw
  | false =>
   rw [hc] at hw
   simp only [Bool.or_eq_false_iff, decide_eq_false_iff_not] at hc
   simp only [cond_false, IZ, Bool.true_and, show ((0 : Int) == 1) = false from rfl, show ((0 : Int) + 1 == 1) = true from rfl, cond_true] at hw
   obtain ⟨n1, w1, hw⟩ := ob hw
   obtain ⟨n2, w2, hw⟩ := ob hw
   cases hw
   have a1 := ihp l b (n + 1) (d + 1) n1 hkp (fun x hx => hs x ((xg hb).2 (.inl hx))) w1
   have a2 := ihq l (b ++ [nm]) n1 (d + 1) m hkq (fun x hx => by
    by_cases hx' : x = nm
    ·subst hx'
     unfold Same
     rcases h1 with h1 | ⟨rfl, h1⟩
     ·rw [h1]; exact .inr ⟨.inl (by simp), nm', rfl, ze (hi hnm)⟩
     ·rw [h1]; exact .inl (by simp)
    ·have hsx := hs x ((xg hb).2 (.inr ⟨hx', hx⟩))
     unfold Same at hsx ⊢
     rw [(h2 x hx hx').1]
     have e : x ∈ b ++ [nm] ↔ x ∈ b := by simp [hx']
     cases hσ : σ x with
     | some u => rw [hσ] at hsx; simpa only [e] using hsx
     | none => rw [hσ] at hsx; simpa only [e] using hsx) w2
   simp only [mf]
   rw [afU hb hn (ks' := [p', q']) rfl hi, show (decide (n + 1 ≤ 2000) && decide (d ≤ 64)) = true by simp; omega]
   simp only [Bool.and_self, cond_true, iW, a1, a2]
end Abs
end Go.Proofs.YtiiaccpcoclklaaGreat
namespace Go.Proofs.YtiiaccpcoclklaaGreat
namespace Abs
open Go
def xO : Tm → List Int → Option Tm
 | t, [] => some t
 | t, i :: p => (idx t.kids i).bind fun k => xO k p
def MW : Tm → List Int → List Str
 | _, [] => []
 | t, i :: p => match idx t.kids i with
  | none => []
  | some k => cond (bg t.op && i == 1) (t.name :: MW k p) (MW k p)
def zN : Tm → List Int → Tm → Tm
 | _, [], u => u
 | t, i :: p, u => match idx t.kids i with
  | none => t
  | some k => .mk t.op t.name t.n t.ty (t.kids.set i.toNat (zN k p u))
theorem YV {α : Type} {l : List α} {i : Int} {x : α} (h : idx l i = some x) : 0 ≤ i ∧ l[i.toNat]? = some x := by
 unfold idx at h
 split at h
 ·exact ⟨by assumption, h⟩
 ·cases h
theorem aa3 {env : Env} {sc : List Decl} {nm : Str} : ∀ {ks : List Tm} {n : Nat} {k : Tm} {i : Int} {l : List Ty}, ks[n]? = some k → bY env sc false nm i ks = .ok l → ∃ T, aY env sc k = .ok T ∧ ∀ k', aY env sc k' = .ok T → bY env sc false nm i (ks.set n k') = .ok l
 | [], n, k, i, l, h, _ => by simp at h
 | a :: ks, n, k, i, l, h, hk => by
  simp only [bY] at hk
  cases ha : aY env sc a with
  | er e p => rw [ha] at hk; cases hk
  | ok ta =>
   rw [ha] at hk
   simp only [gD, cond_false] at hk
   cases hb : bY env sc false nm (i + 1) ks with
   | er e p => rw [hb] at hk; cases hk
   | ok l' =>
    rw [hb] at hk
    simp only at hk
    cases n with
    | zero =>
     simp only [List.getElem?_cons_zero, Option.some.injEq] at h
     subst h
     exact ⟨ta, ha, fun k' hk' => by simp only [List.set_cons_zero, bY, hk', gD, cond_false, hb]; exact hk⟩
    | succ n =>
     obtain ⟨T, h1, h2⟩ := aa3 (n := n) (by simpa using h) hb
     exact ⟨T, h1, fun k' hk' => by simp only [List.set_cons_succ, bY, ha, gD, cond_false, h2 k' hk']; exact hk⟩
theorem abF {env : Env} {sc : List Decl} : ∀ (p : List Int) (t old : Tm) (d : Int) (ty : Ty), Wf d t → xO t p = some old → MW t p = [] → aY env sc t = .ok ty → (∃ d', d ≤ d' ∧ Wf d' old) ∧ ∃ T, aY env sc old = .ok T ∧ ∀ u, aY env sc u = .ok T → aY env sc (zN t p u) = .ok ty
 | [], t, old, d, ty, hw, ha, _, ht => by
  simp only [xO, Option.some.injEq] at ha
  subst ha
  exact ⟨⟨d, by omega, hw⟩, ty, ht, fun u hu => by simpa only [zN] using hu⟩
 | i :: p, .mk op nm m ty ks, old, d, T, hw, ha, hb, ht => by
  obtain ⟨hnode, _, _, hkw⟩ := hw.node
  obtain ⟨_, h20k, h29k, _, hbk⟩ := jM hnode
  simp only [xO, Tm.kids] at ha
  obtain ⟨k, hi, ha⟩ := ob ha
  obtain ⟨i0, hg⟩ := YV hi
  have hkm : k ∈ ks := List.mem_of_getElem? hg
  simp only [MW, Tm.kids, hi, Tm.op, Tm.name] at hb
  have h20 : (op == 20) = false := by
   cases h : op == 20 with
   | false => rfl
   | true => rw [h20k (by simpa using h)] at hkm; cases hkm
  have h29 : (op == 29) = false := by
   cases h : op == 29 with
   | false => rfl
   | true => rw [(h29k (by simpa using h)).1] at hkm; cases hkm
  cases hc : (bg op && i == 1) with
  | true => rw [hc] at hb; cases hb
  | false =>
   rw [hc, cond_false] at hb
   simp only [aY, h20, h29, Bool.false_and, cond_false] at ht
   cases hks : bY env sc (bg op) nm 0 ks with
   | er e q => rw [hks] at ht; cases ht
   | ok l =>
    rw [hks] at ht
    simp only at ht
    cases hbd : bg op with
    | false =>
     rw [hbd] at hks
     obtain ⟨T', h1, h2⟩ := aa3 hg hks
     obtain ⟨⟨d', g0, g1⟩, T2, g2, g3⟩ := abF p k old (d + 1) T' (hkw k hkm) ha hb h1
     refine ⟨⟨d', by omega, g1⟩, T2, g2, fun u hu => ?_⟩
     simp only [zN, Tm.kids, hi, Tm.op, Tm.name, Tm.n, Tm.ty, aY, h20, h29, hbd, Bool.false_and, cond_false, h2 _ (g3 u hu)]
     exact ht
    | true =>
     rw [hbd] at hks hc
     obtain ⟨a, b, rfl⟩ := hbk hbd
     obtain ⟨ta, e, tb, q1, q2, q3, rfl⟩ := NS hks
     have e0 : i.toNat = 0 := by
      match hn : i.toNat, hg with
      | 0, _ => rfl
      | 1, _ =>
       have : i = 1 := by omega
       subst this
       simp at hc
      | n + 2, hg => simp at hg
     rw [e0] at hg
     simp only [List.getElem?_cons_zero, Option.some.injEq] at hg
     subst hg
     obtain ⟨⟨d', g0, g1⟩, T2, g2, g3⟩ := abF p a old (d + 1) ta (hkw a (by simp)) ha hb q1
     refine ⟨⟨d', by omega, g1⟩, T2, g2, fun u hu => ?_⟩
     simp only [zN, Tm.kids, hi, Tm.op, Tm.name, Tm.n, Tm.ty, e0, List.set_cons_zero, aY, h20, h29, hbd, Bool.false_and, cond_false, VI (g3 u hu) q2 q3]
     exact ht
end Abs
end Go.Proofs.YtiiaccpcoclklaaGreat

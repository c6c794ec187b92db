/-
  TypeOf, Predicate and Expression; the laws TypingTypes and TypingSorts of plain data. Conditions: names are no longer than a string may be; lemmas without a program.
-/
import Derived.Test.YtiiaccpcoclklaaGreatCDgx25c9a8
import Derived.Test.YtiiaccpcoclklaaGreatCP7x9c2388
set_option linter.unusedSimpArgs false
set_option linter.unusedVariables false
namespace Go.Proofs.YtiiaccpcoclklaaGreat
namespace Abs
open Go
def dY (env : Env) (t : Tm) : Ty × List Int × Int := cond (bJ env && cu t) (F3 (bC env [] t)) (bE, [], 1)
theorem PU : GoodS [] := fun _ h => by cases h
abbrev iN (env : Env) : Prop := ∀ d ∈ env.names, d.name.length ≤ 9223372036854775807
theorem fA (env : Env) (t : Tm) (hs : iN env) (ht : fI t) : Ev (fun n => eH n env t) (dY env t) := by
 unfold eH dY
 refine Ev.bind (a := !(bJ env && cu t)) ?_ ?_
 ·refine Ev.bind (jM env hs) ?_
  cases bJ env with
  | false => exact Ev.ret _
  | true => exact Ev.bind (FU t ht) (Ev.ret _)
 ·cases hb : (bJ env && cu t) with
  | false => exact Ev.ret _
  | true =>
   simp only [Bool.and_eq_true] at hb
   simp only [Bool.not_true, cond_false, cond_true]
   refine Ev.bind (adl hb.1) ?_
   refine Ev.bind (ari hb.1 t 1 [] [] (gG hb.2) PU (by simp)) ?_
   cases hr : bC env [] t with
   | er e p =>
    have he := EG t [] e p hr
    have e0 : (e != 0) = true := by simpa using he
    have hp := QF (gG hb.2) [] e p hr
    simp only [Kh, F3, e0, cond_true, slices_Clone_int, List.nil_append]
    rw [eD (by simp; omega) (by omega)]
    exact Ev.ret _
   | ok u =>
    simp only [Kh, F3, show ((0 : Int) != 0) = false from rfl, cond_false]
    exact Ev.bind (y8 u (akd (Cr hb.1 PU hr))) (Ev.ret _)
theorem GK {op : Int} {nm : Str} {m : Int} {ty : Ty} {ks : List Tm} (h : fD (.mk op nm m ty ks) = true) : CZ ty = true := by
 simp only [fD, Bool.and_eq_true] at h
 have h5 := h.2.2.2
 unfold O4 at h5
 simp only [Tm.op, Tm.ty] at h5
 cases h29 : op == 29 with
 | true =>
  rw [h29] at h5
  simp only [cond_true, Bool.and_eq_true] at h5
  exact (xW h5.1).1
 | false =>
  rw [h29] at h5
  simp only [cond_false] at h5
  obtain ⟨k, n, l⟩ := ty
  unfold Ay at h5
  simp only [Ty.kind, Ty.name, Ty.kids, Bool.and_eq_true, beq_iff_eq] at h5
  have : l = [] := List.length_eq_zero_iff.1 (by omega)
  subst this
  simp [CZ, Kg]
theorem agU : ∀ t : Tm, ∀ d : Int, Wf d t → Ev (fun n => jG n t) t := Tm.ind fun op nm m ty ks ih d hw => by
 obtain ⟨hnode, _, hks, hkw⟩ := hw.node
 refine Ev.succ ?_
 show Ev (fun n => ow n (fun p0 => jG n p0) (.mk op nm m ty ks)) _
 unfold ow
 simp only [Tm.op, Tm.name, Tm.n, Tm.ty]
 refine Ev.bind (y8 ty (GK hnode)) ?_
 have h := jc (ρ := Tm) ks (fun n k i s => qP n (fun p0 => jG n p0) (.mk op nm m ty ks) k (i, s)) (fun n x s => (jG n x).bind fun y => app 104 s [y]) (fun x s => s ++ [x]) (fun s => s) (fun suf s => s.length + suf.length ≤ 2000)
  (fun n k i s => by
   show cond _ _ _ = _
   congr 1
   show (idx ks i).bind _ = _
   congr 1
   funext x
   simp only [Option.bind_assoc])
  (fun x suf s hx hs => by
   simp only [List.length_cons] at hs
   refine ⟨Ev.bind (ih x hx (d + 1) (hkw x hx)) ?_, by simp only [List.length_append, List.length_singleton]; omega⟩
   rw [eD (by simp; omega) (by omega)]
   exact Ev.ret _) (s0 := []) (by simp; omega)
 rw [sK, List.nil_append] at h
 exact Ev.bind h (Ev.ret _)
theorem LG : ∀ t : Tm, ∀ d : Int, Wf d t → Ev (fun n => nH n t) t := Tm.ind fun op nm m ty ks ih d hw => by
 obtain ⟨hnode, _, hks, hkw⟩ := hw.node
 refine Ev.succ ?_
 show Ev (fun n => zJ n (fun p0 => nH n p0) (fun p0 => vo n p0) (.mk op nm m ty ks)) _
 unfold zJ
 simp only [Tm.op, Tm.name, Tm.n, Tm.ty, Tm.kids]
 refine Ev.bind (mQ ty (GK hnode)) ?_
 refine Ev.bind (a := ks) ?_ (Ev.ret _)
 refine Ev.succ ?_
 show Ev (fun n => wO n (fun p0 => nH n p0) (fun p0 => vo n p0) ks) _
 unfold wO
 have h := jc (ρ := List Tm) ks (fun n k i s => zx n (fun p0 => nH n p0) (fun p0 => vo n p0) ks k (s, i)) (fun n x s => (nH n x).bind fun y => app 104 s [y]) (fun x s => s ++ [x]) (fun s => s) (fun suf s => s.length + suf.length ≤ 2000)
  (fun n k i s => by
   show cond _ _ _ = _
   congr 1
   congr 1
   funext x
   simp only [Option.bind_assoc])
  (fun x suf s hx hs => by
   simp only [List.length_cons] at hs
   refine ⟨Ev.bind (ih x hx (d + 1) (hkw x hx)) ?_, by simp only [List.length_append, List.length_singleton]; omega⟩
   rw [eD (by simp; omega) (by omega)]
   exact Ev.ret _) (s0 := []) (by simp; omega)
 rw [sK, List.nil_append] at h
 exact Ev.bind h (Ev.ret _)
def eY (op : Int) (ks : List Tm) : Tm := .mk op [] 0 bE ks
def nY : Tm := eY 1 []
def EL (m : Int) : Tm := .mk 19 [] m bE []
def fZ (p q : Tm) : Tm := cond (p.op == 1) q (cond (q.op == 1) p (eY 4 [p, q]))
def sH (op : Int) (p q : Tm) : Tm := cond (q.op == 1) q (eY op [p, q])
def allT (nm : Str) (d q : Tm) : Tm := cond (q.op == 1) q (.mk 8 nm 0 bE [d, q])
def yH : Tm := .mk 0 [] 0 bE []
def uh (l : List Tm) : Tm := l.headD yH
def wJ (l : List Tm) : Tm := (l.drop 1).headD yH
def xJ (op : Int) (ks : List Tm) (d : Tm) : Tm :=
 cond (op == 25) (fZ d (eY 11 [wJ ks, EL 0])) <|
 cond (op == 26) (fZ (fZ d (eY 13 [EL 0, uh ks])) (eY 12 [EL 0, wJ ks])) <|
 cond (op == 48 || op == 49) (fZ d (eY 12 [EL 0, eY 47 [uh ks]])) <|
 cond (op == 54) (fZ d (eY 10 [eY 47 [eY 53 [uh ks, eY 28 [wJ ks]]], EL 1])) d
def EP (op : Int) (nm : Str) (ks ds : List Tm) : Tm :=
 cond (op == 4 || op == 6) (fZ (uh ds) (sH 6 (uh ks) (wJ ds))) <|
 cond (op == 5) (fZ (uh ds) (sH 5 (uh ks) (wJ ds))) <|
 cond (bD op) (fZ (uh ds) (allT nm (uh ks) (wJ ds))) <|
 xJ op ks (ds.foldl fZ nY)
mutual
def dQ : Tm → Tm
 | .mk op nm _ _ ks => EP op nm ks (adN ks)
def adN : List Tm → List Tm
 | [] => []
 | t :: ts => dQ t :: adN ts
end
theorem sQ : ∀ ts, adN ts = ts.map dQ
 | [] => rfl
 | t :: ts => by simp [adN, sQ ts]
theorem Li (t : Tm) : Tm.mk t.op t.name t.n (Ty.mk t.ty.kind t.ty.name t.ty.kids) t.kids = t := by obtain ⟨a, b, c, ⟨d, e, f⟩, g⟩ := t; rfl
theorem afE (a b : Bool) : cond a (some a) (some b) = some (a || b) := by cases a <;> rfl
theorem adb (n : Nat) (p q : Tm) : kM n p q = some (fZ p q) := by
 unfold kM fZ
 cases p.op == 1 with
 | true => rfl
 | false => cases q.op == 1 <;> rfl
theorem alG (n : Nat) (p q : Tm) : wL n p q = some (sH 6 p q) := by
 unfold wL sH
 cases q.op == 1 <;> rfl
theorem anv (n : Nat) (p q : Tm) : Fq n p q = some (sH 5 p q) := by
 unfold Fq sH
 cases q.op == 1 <;> rfl
theorem ako (n : Nat) (nm : Str) (p q : Tm) : DF n nm p q = some (allT nm p q) := by
 unfold DF allT
 cases q.op == 1 <;> rfl
theorem arV : ∀ t : Tm, ∀ d : Int, Wf d t → Ev (fun n => gI n t) (dQ t) := Tm.ind fun op nm m ty ks ih d hw => by
 obtain ⟨hnode, _, hks, hkw⟩ := hw.node
 obtain ⟨hop, _, _, hlen, hbk⟩ := jL hnode
 have two : dO op = 2 → ∃ a b, ks = [a, b] := fun h => by
  have hl := (hlen (ks.map fun _ => bE) (by simp)).two h
  exact dR ks (by simpa using hl)
 have one : dO op = 1 → ∃ a, ks = [a] := fun h => by
  have hl := (hlen (ks.map fun _ => bE) (by simp)).one h
  exact rR ks (by simpa using hl)
 have ihk : ∀ u ∈ ks, Ev (fun n => gI n u) (dQ u) := fun u hu => ih u hu (d + 1) (hkw u hu)
 refine Ev.succ ?_
 show Ev (fun n => lZ n (fun p0 => gI n p0) (.mk op nm m ty ks)) _
 unfold lZ
 simp only [Tm.op, Tm.name, Tm.kids, afE, Option.bind_some, dQ, EP, sQ, adb, alG, anv, ako]
 cases h46 : (op == 4 || op == 6) with
 | true =>
  have : dO op = 2 := by
   simp only [Bool.or_eq_true, beq_iff_eq] at h46
   rcases h46 with rfl | rfl <;> rfl
  obtain ⟨a, b, rfl⟩ := two this
  simp only [cond_true, gF, jK, Option.bind_some]
  refine Ev.bind (ihk a (by simp)) ?_
  exact Ev.bind (ihk b (by simp)) (Ev.ret _)
 | false =>
  simp only [cond_false]
  cases h5 : (op == 5) with
  | true =>
   have : dO op = 2 := by
    simp only [beq_iff_eq] at h5
    subst h5; rfl
   obtain ⟨a, b, rfl⟩ := two this
   simp only [cond_true, gF, jK, Option.bind_some]
   refine Ev.bind (ihk a (by simp)) ?_
   exact Ev.bind (ihk b (by simp)) (Ev.ret _)
  | false =>
   simp only [cond_false]
   rw [show (op == 8 || (op == 9 || (op == 55 || op == 56))) = bD op from rfl]
   cases hb : bD op with
   | true =>
    obtain ⟨a, b, rfl⟩ := hbk hb
    simp only [cond_true, gF, jK, Option.bind_some]
    refine Ev.bind (ihk a (by simp)) ?_
    exact Ev.bind (ihk b (by simp)) (Ev.ret _)
   | false =>
    simp only [cond_false]
    have h := jc (ρ := Tm) ks (fun n k i (s : Tm) => nU n (fun p0 => gI n p0) (.mk op nm m ty ks) k (i, s.op, s.name, s.n, s.ty.kind, s.ty.name, s.ty.kids, s.kids)) (fun n x s => (gI n x).bind fun y => kM n s y) (fun x s => fZ s (dQ x)) (fun s => (s.op, s.name, s.n, s.ty.kind, s.ty.name, s.ty.kids, s.kids)) (fun _ _ => True)
     (fun n k i s => by
      show cond _ _ _ = _
      congr 1
      show (idx ks i).bind _ = _
      congr 1
      funext x
      simp only [Option.bind_assoc, Li])
     (fun x suf s hx _ => ⟨Ev.bind (ihk x hx) (by simp only [adb]; exact Ev.ret _), trivial⟩) (s0 := nY) trivial
    have hf : ∀ (l : List Tm) (s : Tm), l.foldl (fun s x => fZ s (dQ x)) s = (l.map dQ).foldl fZ s := by
     intro l
     induction l with
     | nil => intro s; rfl
     | cons x l ih => intro s; rw [List.foldl_cons, ih]; rfl
    rw [hf] at h
    refine Ev.bind h ?_
    simp only [LR.el, Li, xJ]
    generalize (ks.map dQ).foldl fZ nY = D
    cases h25 : (op == 25) with
    | true =>
     have : dO op = 2 := by
      simp only [beq_iff_eq] at h25
      subst h25; rfl
     obtain ⟨a, b, rfl⟩ := two this
     exact Ev.ret _
    | false =>
     cases h26 : (op == 26) with
     | true =>
      have : dO op = 2 := by
       simp only [beq_iff_eq] at h26
       subst h26; rfl
      obtain ⟨a, b, rfl⟩ := two this
      exact Ev.ret _
     | false =>
      cases h48 : (op == 48 || op == 49) with
      | true =>
       have : dO op = 1 := by
        simp only [Bool.or_eq_true, beq_iff_eq] at h48
        rcases h48 with rfl | rfl <;> rfl
       obtain ⟨a, rfl⟩ := one this
       exact Ev.ret _
      | false =>
       cases h54 : (op == 54) with
       | true =>
        have : dO op = 2 := by
         simp only [beq_iff_eq] at h54
         subst h54; rfl
        obtain ⟨a, b, rfl⟩ := two this
        exact Ev.ret _
       | false => exact Ev.ret _
theorem Vf : ∀ {ts : List Tm}, Cb ts ↔ ∀ t ∈ ts, fI t
 | [] => ⟨fun _ t h => (by cases h), fun _ => trivial⟩
 | t :: ts => by
  simp only [Cb]
  rw [Vf]
  exact ⟨fun h u hu => (by
   rcases List.mem_cons.1 hu with rfl | hu
   ·exact h.1
   ·exact h.2 u hu), fun h => ⟨h t (List.mem_cons_self ..), fun u hu => h u (List.mem_cons_of_mem _ hu)⟩⟩
theorem oQ {op : Int} {ks : List Tm} (h : ∀ t ∈ ks, fI t) : fI (eY op ks) := by
 simp only [eY, fI]
 exact ⟨by simp, Vf.2 h⟩
theorem ahF (m : Int) : fI (EL m) := by simp [EL, fI, Cb]
theorem Au {p q : Tm} (hp : fI p) (hq : fI q) : fI (fZ p q) := by
 unfold fZ
 cases p.op == 1 with
 | true => exact hq
 | false =>
  cases q.op == 1 with
  | true => exact hp
  | false => exact oQ (by simp [hp, hq])
theorem aip {op : Int} {p q : Tm} (hp : fI p) (hq : fI q) : fI (sH op p q) := by
 unfold sH
 cases q.op == 1 with
 | true => exact hq
 | false => exact oQ (by simp [hp, hq])
theorem aoN {nm : Str} (hn : nm.length ≤ 9223372036854775807) {p q : Tm} (hp : fI p) (hq : fI q) : fI (allT nm p q) := by
 unfold allT
 cases q.op == 1 with
 | true => exact hq
 | false => simp [fI, Cb, hn, hp, hq]
theorem aaP : fI yH := by simp [yH, fI, Cb]
theorem ahX {l : List Tm} (h : ∀ t ∈ l, fI t) : fI (uh l) := by
 cases l with
 | nil => exact aaP
 | cons a l => exact h a (by simp)
theorem ahr {l : List Tm} (h : ∀ t ∈ l, fI t) : fI (wJ l) := by
 match l, h with
 | [], _ => exact aaP
 | [_], _ => exact aaP
 | _ :: b :: l, h => exact h b (by simp)
theorem anK {l : List Tm} : ∀ {s : Tm}, fI s → (∀ t ∈ l, fI t) → fI (l.foldl fZ s) := by
 induction l with
 | nil => intro s hs _; exact hs
 | cons a l ih => intro s hs h; exact ih (Au hs (h a (by simp))) fun t ht => h t (by simp [ht])
theorem aiq : ∀ t : Tm, fI t → fI (dQ t) := Tm.ind fun op nm m ty ks ih h => by
 simp only [fI] at h
 obtain ⟨hn, hk⟩ := h
 have hk := Vf.1 hk
 have hd : ∀ t ∈ ks.map dQ, fI t := fun t ht => by
  obtain ⟨u, hu, rfl⟩ := List.mem_map.1 ht
  exact ih u hu (hk u hu)
 simp only [dQ, sQ, EP]
 have h1 := ahX hd
 have h2 := ahr hd
 have k1 := ahX hk
 have k2 := ahr hk
 cases op == 4 || op == 6 with
 | true => exact Au h1 (aip k1 h2)
 | false =>
  cases op == 5 with
  | true => exact Au h1 (aip k1 h2)
  | false =>
   cases bD op with
   | true => exact Au h1 (aoN hn k1 h2)
   | false =>
    have hD : fI ((ks.map dQ).foldl fZ nY) := anK (oQ (by simp)) hd
    generalize (ks.map dQ).foldl fZ nY = D at hD
    simp only [cond_false, xJ]
    have n0 := ahF 0
    have n1 := ahF 1
    cases op == 25 with
    | true => exact Au hD (oQ (by simp [k2, n0]))
    | false =>
     cases op == 26 with
     | true => exact Au (Au hD (oQ (by simp [k1, n0]))) (oQ (by simp [k2, n0]))
     | false =>
      cases op == 48 || op == 49 with
      | true =>
       have a1 : fI (eY 47 [uh ks]) := oQ (by simp [k1])
       exact Au hD (oQ (by simp [n0, a1]))
      | false =>
       cases op == 54 with
       | true =>
        have a1 : fI (eY 28 [wJ ks]) := oQ (by simp [k2])
        have a2 : fI (eY 53 [uh ks, eY 28 [wJ ks]]) := oQ (by simp [k1, a1])
        have a3 : fI (eY 47 [eY 53 [uh ks, eY 28 [wJ ks]]]) := oQ (by simp [a2])
        exact Au hD (oQ (by simp [n1, a3]))
       | false => exact hD
def AL (env : Env) (t : Tm) : Tm × Int := cond ((dY env t).2.2 != 0) (yH, (dY env t).2.2) (cond (cu (dQ t)) (dQ t, 0) (yH, 5))
theorem uW {env : Env} {t : Tm} (h : ((dY env t).2.2 != 0) = false) : bJ env = true ∧ cu t = true ∧ ∃ ty, bC env [] t = .ok ty ∧ dY env t = (ty, [], 0) := by
 unfold dY at h ⊢
 cases hb : (bJ env && cu t) with
 | false => rw [hb] at h; cases h
 | true =>
  rw [hb] at h
  simp only [Bool.and_eq_true] at hb
  simp only [cond_true] at h ⊢
  cases ht : bC env [] t with
  | er e p =>
   have he := EG t [] e p ht
   rw [ht] at h
   simp only [F3, bne_eq_false_iff_eq] at h
   exact absurd h he
  | ok ty => exact ⟨hb.1, hb.2, ty, rfl, rfl⟩
theorem mh (env : Env) (t : Tm) (hs : iN env) (ht : fI t) : Ev (fun n => jw n env t) (AL env t) := by
 unfold jw AL
 refine Ev.bind (fA env t hs ht) ?_
 cases he : ((dY env t).2.2 != 0) with
 | true => exact Ev.ret _
 | false =>
  obtain ⟨_, hv, _⟩ := uW he
  simp only [cond_false]
  refine Ev.bind (arV t 1 (gG hv)) ?_
  refine Ev.bind (FU _ (aiq t ht)) ?_
  cases hd : cu (dQ t) with
  | false => exact Ev.ret _
  | true => exact Ev.bind (agU _ 1 (gG hd)) (Ev.ret _)
def Dn (op : Int) : Bool := op == 25 || (op == 26 || (op == 48 || (op == 49 || op == 54)))
end Abs
end Go.Proofs.YtiiaccpcoclklaaGreat

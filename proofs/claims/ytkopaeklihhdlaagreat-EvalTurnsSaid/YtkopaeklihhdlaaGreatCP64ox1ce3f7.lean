/-
  Values and worlds turned, on both sides; the law EvalTurns, plainly. Conditions: the arguments' sizes.
-/
import Derived.Test.YtkopaeklihhdlaaGreatCDpox3709b3
import Derived.Test.YtkopaeklihhdlaaGreatCP61ox61802c
set_option linter.unusedSimpArgs false
set_option linter.unusedVariables false
namespace Go.Proofs.YtkopaeklihhdlaaGreat
namespace Abs
open Go
def Fu (c : Str) (pm : List Int) (k n : Int) (s : Str) : Int := cond (k == 3 && (s == c && (decide (0 ≤ n) && decide (n < (pm.length : Int))))) ((idx pm n).getD n) n
mutual
def oG (c : Str) (pm : List Int) : Val → Val
 | .mk k n s ks => .mk k (Fu c pm k n s) s (cond (k == 5) (sortV (iU c pm ks)) (iU c pm ks))
def iU (c : Str) (pm : List Int) : List Val → List Val
 | [] => []
 | v :: vs => oG c pm v :: iU c pm vs
end
theorem o7 (c : Str) (pm : List Int) : ∀ l : List Val, iU c pm l = l.map (oG c pm)
 | [] => rfl
 | v :: vs => by rw [iU, o7 c pm vs]; rfl
theorem Hq : ∀ {vs : List Val}, (∀ v ∈ vs, dw v) → CP vs
 | [], _ => trivial
 | v :: vs, h => by
  simp only [CP]
  exact ⟨h v (by simp), Hq fun u hu => h u (by simp [hu])⟩
theorem afU (c : Str) (pm : List Int) (v : Val) (hv : dw v) : dw (oG c pm v) := by
 induction v using Val.ind with
 | h k n s ks ih =>
  obtain ⟨h1, h2⟩ := hv.kids
  simp only [Val.kids] at h1 h2
  have hm : ∀ u ∈ iU c pm ks, dw u := fun u hu => by
   rw [o7] at hu
   obtain ⟨x, hx, rfl⟩ := List.mem_map.1 hu
   exact ih x hx (h2 x hx)
  have hl : (iU c pm ks).length = ks.length := by rw [o7, List.length_map]
  simp only [oG, dw]
  cases k == 5 with
  | false => exact ⟨by simp only [cond_false]; omega, Hq hm⟩
  | true =>
   have := nW (iU c pm ks)
   exact ⟨by simp only [cond_true]; omega, Hq fun u hu => hm u ((nN _ u).1 hu)⟩
theorem Dv {α β : Type} (f : α → β) : ∀ (l : List α) (s : List β), l.foldl (fun s x => s ++ [f x]) s = s ++ l.map f
 | [], s => by simp
 | x :: l, s => by simp [Dv f l]
theorem WQ (c : Str) (pm : List Int) (k n : Int) (s : Str) : ((((cond (k == 3) (cond (s == c) (cond (decide (0 ≤ n)) (some (decide (n < (pm.length : Int)))) (some false)) (some false)) (some false)) : Option Bool).bind fun (s5 : Bool) => (cond s5 ((idx pm n).bind fun (x6 : Int) => some x6) (some n))) : Option Int) = some (Fu c pm k n s) := by
 unfold Fu
 cases k == 3 with
 | false => rfl
 | true =>
  cases s == c with
  | false => rfl
  | true =>
   by_cases h0 : 0 ≤ n
   ·rw [decide_eq_true h0]
    by_cases h1 : n < (pm.length : Int)
    ·rw [decide_eq_true h1]
     obtain ⟨x, hx⟩ : ∃ x, idx pm n = some x := by
      unfold idx
      rw [if_pos h0]
      exact ⟨_, List.getElem?_eq_getElem (by omega)⟩
     simp only [cond_true, Option.bind_some, Bool.and_self, hx, Option.getD_some]
    ·rw [decide_eq_false h1]; rfl
   ·rw [decide_eq_false h0]; rfl
theorem PV (c : Str) (pm : List Int) (v : Val) (hv : dS v) : Ev (fun n => iY n v c pm) (oG c pm v) := by
 induction v using Val.ind with
 | h k n s ks ih =>
  obtain ⟨h1, h2⟩ := hv.kids
  simp only [Val.kids] at h1 h2
  refine Ev.succ ?_
  show Ev (fun m => qN m (fun p0 p1 p2 => iY m p0 p1 p2) (.mk k n s ks) c pm) _
  unfold qN
  simp only [Val.kind, Val.n, Val.name]
  refine Ev.bind (a := Fu c pm k n s) (Ev.of fun _ => WQ c pm k n s) ?_
  have hl := gQ (ρ := Val) ks (fun n' k' i t => tu n' (fun p0 p1 p2 => iY n' p0 p1 p2) (.mk k n s ks) c pm k' (t, i)) (fun n' x t => (iY n' x c pm).bind fun x4 => app 56 t [x4]) (fun x t => t ++ [oG c pm x]) (fun t => t) (fun suf t => (t.length + suf.length) * 56 ≤ 140737488355328)
   (fun n' k' i t => by
    show cond _ _ _ = _
    congr 1
    show (idx ks i).bind _ = _
    congr 1
    funext x
    simp only [Option.bind_assoc])
   (fun x suf t hx ht => by
    simp only [List.length_cons] at ht
    refine ⟨Ev.bind (ih x hx (h2 x hx)) ?_, ?_⟩
    ·rw [xH (by simp only [List.length_singleton]; omega)]; exact Ev.ret _
    ·simp only [List.length_append, List.length_singleton]; omega) (s0 := ([] : List Val)) (by simp only [List.length_nil]; omega)
  rw [Dv, List.nil_append, ← o7] at hl
  have hlen : (iU c pm ks).length = ks.length := by rw [o7, List.length_map]
  refine Ev.bind hl ?_
  show Ev (fun m => ((cond (k == 5) ((pX m (iU c pm ks)).bind fun (x2 : List Val) => some x2) (some (iU c pm ks))) : Option (List Val)).bind fun (s4 : List Val) => ((lD m s4).bind fun (x1 : List Val) => some (Val.mk k (Fu c pm k n s) s x1))) _
  unfold oG lD
  refine Ev.bind (a := cond (k == 5) (sortV (iU c pm ks)) (iU c pm ks)) ?_ ?_
  ·cases k == 5 with
   | false => exact Ev.ret _
   | true =>
    refine Ev.bind (a := sortV (iU c pm ks)) (Ev.of fun m => ?_) (Ev.ret _)
    unfold pX
    rw [xH (by simp only [List.length_nil]; omega)]
    rfl
  ·have : (cond (k == 5) (sortV (iU c pm ks)) (iU c pm ks)).length ≤ ks.length := by
    have := nW (iU c pm ks)
    cases k == 5 <;> simp only [cond_true, cond_false] <;> omega
   rw [Nat.ble_eq_true_of_le (by omega)]
   exact Ev.ret _
theorem KZ (c : Str) (pm : List Int) (v : Val) (hv : dS v) (hs : dw v) : Ev (fun n => mJ n v c pm) (oG c pm v) := by
 induction v using Val.ind with
 | h k n s ks ih =>
  obtain ⟨h1, h2⟩ := hv.kids
  obtain ⟨_, h3⟩ := hs.kids
  simp only [Val.kids] at h1 h2 h3
  refine Ev.succ ?_
  show Ev (fun m => uf m (fun p0 p1 p2 => mJ m p0 p1 p2) (.mk k n s ks) c pm) _
  unfold uf
  simp only [Val.kind, Val.n, Val.name]
  refine Ev.bind (a := Fu c pm k n s) (Ev.of fun _ => WQ c pm k n s) ?_
  have hl := gQ (ρ := Val) ks (fun n' k' i t => xC n' (fun p0 p1 p2 => mJ n' p0 p1 p2) (.mk k n s ks) c pm k' (i, t)) (fun n' x t => (mJ n' x c pm).bind fun x4 => app 56 t [x4]) (fun x t => t ++ [oG c pm x]) (fun t => t) (fun suf t => (t.length + suf.length) * 56 ≤ 140737488355328)
   (fun n' k' i t => by
    show cond _ _ _ = _
    congr 1
    show (idx ks i).bind _ = _
    congr 1
    funext x
    simp only [Option.bind_assoc])
   (fun x suf t hx ht => by
    simp only [List.length_cons] at ht
    refine ⟨Ev.bind (ih x hx (h2 x hx) (h3 x hx)) ?_, ?_⟩
    ·rw [xH (by simp only [List.length_singleton]; omega)]; exact Ev.ret _
    ·simp only [List.length_append, List.length_singleton]; omega) (s0 := ([] : List Val)) (by simp only [List.length_nil]; omega)
  rw [Dv, List.nil_append, ← o7] at hl
  have hlen : (iU c pm ks).length = ks.length := by rw [o7, List.length_map]
  refine Ev.bind hl ?_
  show Ev (fun m => ((cond (k == 5) ((nM m (iU c pm ks)).bind fun (x2 : List Val) => some x2) (some (iU c pm ks))) : Option (List Val)).bind fun (s4 : List Val) => some (Val.mk k (Fu c pm k n s) s s4)) _
  unfold oG
  refine Ev.bind (a := cond (k == 5) (sortV (iU c pm ks)) (iU c pm ks)) ?_ (Ev.ret _)
  cases k == 5 with
  | false => exact Ev.ret _
  | true =>
   refine Ev.bind (AJ _ _ (Nat.le_refl _) (fun x hx => ?_) (by omega)) (Ev.ret _)
   rw [o7] at hx
   obtain ⟨y, hy, rfl⟩ := List.mem_map.1 hx
   exact afU c pm y (h3 y hy)
theorem set_mid {α : Type} : ∀ (pre : List α) (x y : α) (suf : List α), (pre ++ x :: suf).set pre.length y = pre ++ y :: suf
 | [], _, _, _ => rfl
 | p :: pre, x, y, suf => by simp [set_mid pre x y suf]
theorem Zn {α ρ : Type} (l : List α) (f : α → α) (L : Nat → Nat → List α → Int → Option (LR (List α) ρ)) (step : Nat → α → Option α)
  (hL : ∀ n k s i, s.length = l.length → L n (k + 1) s i = cond (decide (i < (l.length : Int))) ((idx s i).bind fun x => (step n x).bind fun y => L n k (upd s i y) (i + 1)) (some (.nx s)))
  (hs : ∀ x ∈ l, Ev (fun n => step n x) (f x)) : Ev (fun n => L n n l 0) (.nx (l.map f)) := by
 have key : ∀ (suf pre q : List α), l = q ++ suf → pre.length = q.length → ∃ N, ∀ n, N ≤ n → ∀ k, suf.length + 1 ≤ k → L n k (pre ++ suf) (pre.length : Int) = some (.nx (pre ++ suf.map f)) := by
  intro suf
  induction suf with
  | nil =>
   intro pre q hp hq
   refine ⟨0, fun n _ k hk => ?_⟩
   obtain ⟨j, rfl⟩ : ∃ j, k = j + 1 := ⟨k - 1, by simp at hk; omega⟩
   rw [hL _ _ _ _ (by rw [hp]; simp [hq]), decide_eq_false (by rw [hp]; simp [hq])]
   rfl
  | cons a suf ih =>
   intro pre q hp hq
   obtain ⟨N1, h1⟩ := hs a (by rw [hp]; simp)
   obtain ⟨N2, h2⟩ := ih (pre ++ [f a]) (q ++ [a]) (by rw [hp]; simp) (by simp [hq])
   refine ⟨N1 + N2, fun n hn k hk => ?_⟩
   obtain ⟨j, rfl⟩ : ∃ j, k = j + 1 := ⟨k - 1, by simp at hk; omega⟩
   have h1 : step n a = _ := h1 n (by omega)
   have h2 := h2 n (by omega) j (by simp at hk; omega)
   rw [hL _ _ _ _ (by rw [hp]; simp [hq]), decide_eq_true (by rw [hp]; simp [hq]; omega)]
   simp only [cond_true, gM, Option.bind_some, h1]
   have e : upd (pre ++ a :: suf) (pre.length : Int) (f a) = pre ++ f a :: suf := by
    unfold upd
    rw [Int.toNat_natCast, set_mid]
   rw [e, show (pre.length : Int) + 1 = ((pre ++ [f a]).length : Int) by simp]
   simpa using h2
 obtain ⟨N, h⟩ := key l [] [] rfl rfl
 exact ⟨N + l.length + 1, fun n hn => h n (by omega) n (by omega)⟩
def zX (m : Nat) (x : Int) (s : List Bool) : Bool := cond (decide (x < 0)) true (cond (decide ((m : Int) ≤ x)) true ((idx s x).getD true))
def GN (m : Nat) : List Int → List Bool → Option (List Bool)
 | [], s => some s
 | x :: xs, s => cond (zX m x s) none (GN m xs (upd s x true))
theorem L8 {τ ρ : Type} (m : Nat) (fin : List Bool → τ) (r : ρ) : ∀ (l : List Int) (s : List Bool), gP (fun x s => cond (zX m x s) (.rt r) (.nx (upd s x true))) fin l s = (match GN m l s with | none => .rt r | some s' => .nx (fin s'))
 | [], _ => rfl
 | x :: xs, s => by
  simp only [gP, GN]
  cases zX m x s with
  | true => rfl
  | false => exact L8 m fin r xs _
theorem Y8 (m : Nat) : ∀ (l : List Int) (s s' : List Bool), GN m l s = some s' → s'.length = s.length
 | [], s, s', h => by simp only [GN, Option.some.injEq] at h; rw [h]
 | x :: xs, s, s', h => by
  simp only [GN] at h
  cases hb : zX m x s with
  | true => rw [hb] at h; simp at h
  | false =>
   rw [hb] at h
   have := Y8 m xs _ s' h
   rw [this]
   simp [upd]
theorem Xp {m : Nat} {x : Int} {s : List Bool} (hs : s.length = m) (h : zX m x s = false) : ∃ b, idx s x = some b := by
 unfold zX at h
 by_cases h0 : x < 0
 ·rw [decide_eq_true h0] at h; simp at h
 ·by_cases h1 : (m : Int) ≤ x
  ·rw [decide_eq_false h0, decide_eq_true h1] at h; simp at h
  ·unfold idx
   rw [if_pos (by omega)]
   exact ⟨_, List.getElem?_eq_getElem (by omega)⟩
theorem abr {m : Nat} {x : Int} {s : List Bool} (hs : s.length = m) : ((cond (decide (x < 0)) (some true) (cond (decide ((m : Int) ≤ x)) (some true) ((idx s x).bind fun (x12 : Bool) => some x12))) : Option Bool) = some (zX m x s) := by
 unfold zX
 by_cases h0 : x < 0
 ·rw [decide_eq_true h0]; rfl
 ·by_cases h1 : (m : Int) ≤ x
  ·rw [decide_eq_false h0, decide_eq_true h1]; rfl
  ·rw [decide_eq_false h0, decide_eq_false h1]
   have : ∃ b, idx s x = some b := by
    unfold idx
    rw [if_pos (by omega)]
    exact ⟨_, List.getElem?_eq_getElem (by omega)⟩
   obtain ⟨b, hb⟩ := this
   rw [hb]
   rfl
def wE (e : Int) : S_api_World × Int := (Lr, e)
theorem aeT (pm : List Int) (m : Nat) : Ev (fun n => mF n pm n (List.replicate m false, 0)) (match GN m pm (List.replicate m false) with
 | none => .rt (wE 12)
 | some s' => .nx s') := by
 rw [← L8 m (fun s => s) (wE 12)]
 refine tC pm (fun n k i s => mF n pm k (s, i)) (fun n x s => (((cond (decide (x < 0)) (some true) (cond (decide ((s.length : Int) ≤ x)) (some true) ((idx s x).bind fun (x12 : Bool) => some x12))) : Option Bool).bind fun (s5 : Bool) => (cond s5 (some (.rt (wE 12))) ((idx s x).bind fun (_ : Bool) => some (.nx (upd s x true)))))) _ (fun s => s) (fun _ s => s.length = m)
  (fun n k i s => by
   show cond _ _ _ = _
   congr 1
   show (idx pm i).bind _ = _
   congr 1
   funext x
   rw [Option.bind_assoc]
   congr 1
   funext b
   cases b with
   | true => rfl
   | false => simp only [cond_false, Option.bind_assoc, Option.bind_some, LR.el])
  (fun x suf s hx hs => by
   refine ⟨?_, fun s' h => ?_⟩
   ·show Ev (fun _ => Option.bind _ _) _
    rw [hs, abr hs, Option.bind_some]
    cases hb : zX m x s with
    | true => exact Ev.ret _
    | false =>
     obtain ⟨b, hi⟩ := Xp hs hb
     simp only [cond_false, hi, Option.bind_some]
     exact Ev.ret _
   ·cases hb : zX m x s with
    | true => rw [hb] at h; simp at h
    | false =>
     rw [hb] at h
     simp only [cond_false, LR.nx.injEq] at h
     rw [← h]
     simpa [upd] using hs) (by simp)
def E8 (pm : List Int) (m : Nat) : Bool := ((pm.length : Int) == (m : Int)) && (GN m pm (List.replicate m false)).isSome
theorem YI (pm : List Int) (m : Nat) (hm : m ≤ 1000000000) : Ev (fun n => vS n pm (m : Int)) (E8 pm m) := by
 unfold vS E8
 simp only [bne]
 cases hl : ((pm.length : Int) == (m : Int)) with
 | false => exact Ev.ret _
 | true =>
  have hl : pm.length = m := by have := beq_iff_eq.1 hl; omega
  simp only [Bool.not_true, cond_false, Bool.true_and]
  unfold ZH
  rw [if_pos ⟨by omega, by omega⟩, Int.toNat_natCast]
  refine Ev.bind (Ev.ret _) ?_
  have h : Ev (fun n => nO n pm (m : Int) n (List.replicate m false, 0)) (match GN m pm (List.replicate m false) with
   | none => .rt false
   | some _ => .nx ()) := by
   rw [← L8 m (fun _ => ()) false]
   refine tC pm (fun n k i s => nO n pm (m : Int) k (s, i)) (fun n x s => (((cond (decide (x < 0)) (some true) (cond (decide ((m : Int) ≤ x)) (some true) ((idx s x).bind fun (x12 : Bool) => some x12))) : Option Bool).bind fun (s5 : Bool) => (cond s5 (some (.rt false)) ((idx s x).bind fun (_ : Bool) => some (.nx (upd s x true)))))) _ (fun s => ()) (fun _ s => s.length = m)
    (fun n k i s => by
     show cond _ _ _ = _
     rw [hl]
     congr 1
     show Option.bind _ _ = _
     cases idx pm i with
     | none => rfl
     | some x =>
      simp only [Option.bind_some, Option.bind_assoc]
      cases decide (x < 0) with
      | true => rfl
      | false =>
       cases decide ((m : Int) ≤ x) with
       | true => rfl
       | false =>
        simp only [cond_false, Option.bind_assoc, Option.bind_some]
        cases idx s x with
        | none => rfl
        | some b => cases b <;> rfl)
    (fun x suf s hx hs => by
     refine ⟨?_, fun s' h => ?_⟩
     ·show Ev (fun _ => Option.bind _ _) _
      rw [abr hs, Option.bind_some]
      cases hb : zX m x s with
      | true => exact Ev.ret _
      | false =>
       obtain ⟨b, hi⟩ := Xp hs hb
       simp only [cond_false, hi, Option.bind_some]
       exact Ev.ret _
     ·cases hb : zX m x s with
      | true => rw [hb] at h; simp at h
      | false =>
       rw [hb] at h
       simp only [cond_false, LR.nx.injEq] at h
       rw [← h]
       simpa [upd] using hs) (by simp)
  refine Ev.bind h ?_
  cases GN m pm (List.replicate m false) <;> exact Ev.ret _
theorem V3 : ∀ (cs : List Carrier) (ss : List Int), xM cs ss = true → ∀ (j : Nat) (c : Carrier) (s : Int), cs[j]? = some c → ss[j]? = some s → 1 ≤ s ∧ s ≤ 8
 | [], _, _, _, _, _, hc, _ => by simp at hc
 | _ :: _, [], _, _, _, _, _, hs => by simp at hs
 | c :: cs, s :: ss, h, 0, c', s', hc, hs => by
  simp only [List.getElem?_cons_zero, Option.some.injEq] at hc hs
  subst hc hs
  simp only [xM, Bool.and_eq_true, Bool.not_eq_true', Qm] at h
  have h := h.1
  by_cases h1 : s < 1
  ·rw [decide_eq_true h1] at h; simp at h
  ·by_cases h2 : 8 < s
   ·rw [decide_eq_false h1, decide_eq_true h2] at h; simp at h
   ·omega
 | c :: cs, s :: ss, h, j + 1, c', s', hc, hs => by
  simp only [List.getElem?_cons_succ] at hc hs
  simp only [xM, Bool.and_eq_true] at h
  exact V3 cs ss h.2 j c' s' hc hs
def qg (w : S_api_World) (c : Str) : Int := gH (fun x => x.name == c) 0 w.env.carriers
theorem Y4 {w : S_api_World} (h : lZ w = true) (c : Str) (hp : ¬ qg w c < 0) : ∃ d, ∃ m : Nat, idx w.env.carriers (qg w c) = some d ∧ idx w.sizes (qg w c) = some (m : Int) ∧ m ≤ 8 := by
 obtain ⟨h1, h2, h3, h4⟩ := (pR w).1 h
 have hsz := pF h2
 rcases l7 (fun x : Carrier => x.name == c) w.env.carriers [] with ⟨d, _, _, g3, g4⟩ | ⟨_, g2⟩
 ·simp only [List.length_nil, Int.natCast_zero, List.nil_append] at g3 g4
  have g4 : idx w.env.carriers (qg w c) = some d := g4
  have g3 : 0 ≤ qg w c := g3
  have hd := (EY g4).2
  have hlt := (List.getElem?_eq_some_iff.1 hd).1
  have hv : w.sizes[(qg w c).toNat]? = some w.sizes[(qg w c).toNat] := List.getElem?_eq_getElem (by omega)
  have hf : xM w.env.carriers w.sizes = true := by
   unfold jy at h2
   simp only [Bool.and_eq_true] at h2
   exact h2.2
  have hb := V3 _ _ hf _ _ _ hd hv
  refine ⟨d, (w.sizes[(qg w c).toNat]).toNat, g4, ?_, by omega⟩
  unfold idx
  rw [if_pos g3, hv, Int.toNat_of_nonneg (by omega)]
 ·simp only [List.length_nil, Int.natCast_zero] at g2
  exact absurd (show qg w c < 0 by show gH _ 0 w.env.carriers < 0; rw [g2]; omega) hp
def Uq (w : S_api_World) (c : Str) (pm : List Int) : S_api_World × Int := cond (!(lZ w)) (wE 1) (cond (decide (qg w c < 0)) (wE 6) (match idx w.env.carriers (qg w c), idx w.sizes (qg w c) with
 | some d, some m => cond (decide (0 < (d.elems.length : Int))) (wE 31) (cond (!(E8 pm m.toNat)) (wE 12) (⟨w.env, w.sizes, w.values.map (oG c pm)⟩, 0))
 | _, _ => wE 0))
theorem aak (w : S_api_World) (c : Str) (pm : List Int) (hs : ∀ d ∈ w.env.names, d.name.length ≤ 9223372036854775807) : Ev (fun n => uD n w c pm) (Uq w c pm) := by
 unfold uD Uq
 refine Ev.bind (vY w hs) ?_
 cases h : lZ w with
 | false => exact Ev.ret _
 | true =>
  simp only [Bool.not_true, cond_false]
  refine Ev.bind (KP w.env c) ?_
  show Ev (fun n => cond (decide (qg w c < 0)) _ ((idx w.env.carriers (qg w c)).bind _)) _
  by_cases hp : qg w c < 0
  ·rw [decide_eq_true hp]; exact Ev.ret _
  ·obtain ⟨d, m, g1, g2, g3⟩ := Y4 h c hp
   rw [decide_eq_false hp, g1, g2]
   show Ev (fun n => cond (decide (0 < (d.elems.length : Int))) _ ((idx w.sizes (qg w c)).bind _)) (cond (decide (0 < (d.elems.length : Int))) (wE 31) (cond (!(E8 pm (m : Int).toNat)) (wE 12) ((⟨w.env, w.sizes, w.values.map (oG c pm)⟩ : S_api_World), (0 : Int))))
   cases decide (0 < (d.elems.length : Int)) with
   | true => exact Ev.ret _
   | false =>
    rw [g2, Int.toNat_natCast]
    simp only [cond_false]
    refine Ev.bind (a := (m : Int)) (Ev.ret _) ?_
    unfold ZH
    rw [if_pos ⟨by omega, by omega⟩, Int.toNat_natCast]
    refine Ev.bind (Ev.ret _) (Ev.bind (aeT pm m) ?_)
    unfold E8
    cases hc : GN m pm (List.replicate m false) with
    | none =>
     simp only [Option.isSome_none, Bool.and_false, Bool.not_false, cond_true]
     exact Ev.ret _
    | some s' =>
     have hl := Y8 m pm _ _ hc
     rw [List.length_replicate] at hl
     simp only [LR.el, Option.isSome_some, Bool.and_true, hl, bne]
     cases (pm.length : Int) == (m : Int) with
     | false => exact Ev.ret _
     | true =>
      simp only [Bool.not_true, cond_false]
      refine Ev.bind (GJ h) ?_
      have hm := Zn (ρ := S_api_World × Int) w.values (oG c pm) (fun n k s i => o8 n c pm (w.env.carriers, w.env.names, w.sizes, w.values) k (s, i)) (fun n x => iY n x c pm)
       (fun n k s i _ => by
        show cond _ _ _ = _
        congr 1
        show (idx s i).bind _ = _
        cases idx s i with
        | none => rfl
        | some x => simp only [Option.bind_some])
       (fun x hx => PV c pm x (wJ h x hx))
      exact Ev.bind hm (Ev.ret _)
theorem XO (w : S_api_World) (c : Str) (pm : List Int) (hv : ∀ v ∈ w.values, dw v) : Ev (fun n => xZ n w c pm) (Uq w c pm) := by
 unfold xZ Uq
 refine Ev.bind (qx w hv) ?_
 cases h : lZ w with
 | false => exact Ev.ret _
 | true =>
  simp only [Bool.not_true, cond_false]
  refine Ev.bind (qR w.env c) ?_
  show Ev (fun n => cond (decide (qg w c < 0)) _ ((idx w.env.carriers (qg w c)).bind _)) _
  by_cases hp : qg w c < 0
  ·rw [decide_eq_true hp]; exact Ev.ret _
  ·obtain ⟨d, m, g1, g2, g3⟩ := Y4 h c hp
   rw [decide_eq_false hp, g1, g2]
   show Ev (fun n => cond (decide (0 < (d.elems.length : Int))) _ ((idx w.sizes (qg w c)).bind _)) (cond (decide (0 < (d.elems.length : Int))) (wE 31) (cond (!(E8 pm (m : Int).toNat)) (wE 12) ((⟨w.env, w.sizes, w.values.map (oG c pm)⟩ : S_api_World), (0 : Int))))
   cases decide (0 < (d.elems.length : Int)) with
   | true => exact Ev.ret _
   | false =>
    rw [g2, Int.toNat_natCast]
    simp only [cond_false]
    refine Ev.bind (a := (m : Int)) (Ev.ret _) (Ev.bind (YI pm m (by omega)) ?_)
    cases E8 pm m with
    | false => exact Ev.ret _
    | true =>
     simp only [Bool.not_true, cond_false]
     refine Ev.bind (FV h) ?_
     have hm := Zn (ρ := S_api_World × Int) w.values (oG c pm) (fun n k s i => rU n c pm k (i, s)) (fun n x => mJ n x c pm)
      (fun n k s i hsl => by
       show cond _ _ _ = _
       rw [← hsl]
       congr 1
       show (idx s i).bind _ = _
       cases idx s i with
       | none => rfl
       | some x => simp only [Option.bind_some])
      (fun x hx => KZ c pm x (wJ h x hx) (hv x hx))
     exact Ev.bind hm (Ev.ret _)
theorem adW (v : Val) : ∃ b, Ev (fun n => ku n v) b := by
 induction v using Val.ind with
 | h k n s ks ih =>
  obtain ⟨p, hp⟩ : ∃ p : Val → Bool, ∀ x ∈ ks, Ev (fun n => ku n x) (p x) := by
   refine ⟨fun x => (Classical.epsilon fun b => Ev (fun n => ku n x) b), fun x hx => ?_⟩
   exact Classical.epsilon_spec (ih x hx)
  suffices h : ∃ b, Ev (fun m => su m (fun p0 => ku m p0) (.mk k n s ks)) b by
   obtain ⟨b, h⟩ := h
   exact ⟨b, Ev.succ h⟩
  unfold su
  simp only [Val.kind, Val.kids]
  have e1 : ((cond (k == 1) (some (k == 1)) (cond (k == 2) (some (k == 2)) (some (k == 3)))) : Option Bool) = some (cond (k == 1) (k == 1) (cond (k == 2) (k == 2) (k == 3))) := by
   cases k == 1 <;> cases k == 2 <;> rfl
  rw [e1]
  simp only [Option.bind_some]
  cases (cond (k == 1) (k == 1) (cond (k == 2) (k == 2) (k == 3))) with
  | true => exact ⟨_, Ev.ret _⟩
  | false =>
   simp only [cond_false]
   cases k == 4 with
   | true =>
    simp only [cond_true]
    cases hl : (ks.length : Int) == 2 with
    | false => exact ⟨_, Ev.ret _⟩
    | true =>
     have hl : ks.length = 2 := by have := beq_iff_eq.1 hl; omega
     match ks, hl, hp with
     | [a, b], _, hp =>
      refine ⟨cond (p a) (p b) false, ?_⟩
      refine Ev.bind (a := cond (p a) (p b) false) ?_ (Ev.ret _)
      show Ev (fun m => (ku m a).bind fun x2 => cond x2 ((ku m b).bind fun x4 => some x4) (some false)) _
      refine Ev.bind (hp a (by simp)) ?_
      cases p a with
      | false => exact Ev.ret _
      | true => exact Ev.bind (hp b (by simp)) (Ev.ret _)
   | false =>
    simp only [cond_false]
    have h := iE ks (fun m k' i => vV m (fun p0 => ku m p0) (.mk k n s ks) k' i) (fun m x => (ku m x).bind fun b => some (!b)) (fun x => !(p x)) false
     (fun m k' i => by
      show cond _ _ _ = _
      congr 1
      show (idx ks i).bind _ = _
      congr 1
      funext x
      simp only [Option.bind_assoc, Option.bind_some])
     (fun x hx => Ev.bind (hp x hx) (Ev.ret _))
    refine ⟨cond (ks.any fun x => !(p x)) false (k == 5), Ev.bind h ?_⟩
    cases (ks.any fun x => !(p x)) <;> exact Ev.ret _
theorem aaO (w : S_api_World) (x : S_refinementlaw03_Turned) (hw : ∀ v ∈ w.values, dw v) : Ev (fun n => gK n w x n 0) (.nx ()) := by
 obtain ⟨N0, hV⟩ := qx w hw
 cases h : lZ w with
 | false =>
  refine ⟨N0 + 1, fun n hn => ?_⟩
  obtain ⟨j, rfl⟩ : ∃ j, n = j + 1 := ⟨n - 1, by omega⟩
  have hV : fV (j + 1) w = _ := hV (j + 1) (by omega)
  rw [h] at hV
  show gK (j + 1) w x (j + 1) 0 = _
  unfold gK
  rw [hV]
  cases decide ((0 : Int) < (w.values.length : Int)) <;> rfl
 | true =>
  obtain ⟨h1, h2, h3, h4⟩ := (pR w).1 h
  obtain ⟨hc8, hn64, _, _, _⟩ := cB h1
  have hf := wJ h
  have key : ∀ (suf pre : List Val), w.values = pre ++ suf → ∃ N, ∀ n, N ≤ n → ∀ k, suf.length + 1 ≤ k → gK n w x k (pre.length : Int) = some (.nx ()) := by
   intro suf
   induction suf with
   | nil =>
    intro pre hp
    refine ⟨0, fun n _ k hk => ?_⟩
    obtain ⟨j, rfl⟩ : ∃ j, k = j + 1 := ⟨k - 1, by simp at hk; omega⟩
    unfold gK
    rw [decide_eq_false (by rw [hp]; simp)]
    rfl
   | cons a suf ih =>
    intro pre hp
    have ha : a ∈ w.values := by rw [hp]; simp
    obtain ⟨N1, e1⟩ := PV x.carrier x.perm a (hf a ha)
    obtain ⟨N2, e2⟩ := KZ x.carrier x.perm a (hf a ha) (hw a ha)
    obtain ⟨N3, e3⟩ := nU (oG x.carrier x.perm a)
    obtain ⟨N4, e4⟩ := ih (pre ++ [a]) (by rw [hp]; simp)
    refine ⟨N0 + N1 + N2 + N3 + N4, fun n hn k hk => ?_⟩
    obtain ⟨j, rfl⟩ : ∃ j, k = j + 1 := ⟨k - 1, by simp at hk; omega⟩
    have hV : fV n w = _ := hV n (by omega)
    rw [h] at hV
    have e1 : iY n a x.carrier x.perm = _ := e1 n (by omega)
    have e2 : mJ n a x.carrier x.perm = _ := e2 n (by omega)
    have e3 : dn n (oG x.carrier x.perm a) (oG x.carrier x.perm a) = _ := e3 n (by omega)
    have e4 := e4 n (by omega) j (by simp at hk; omega)
    have hlen : pre.length + (suf.length + 1) = w.values.length := by rw [hp]; simp
    have hi : idx w.values (pre.length : Int) = some a := by rw [hp]; exact gM _ _ _
    unfold gK
    rw [decide_eq_true (by omega), hV]
    simp only [cond_true, Option.bind_some, hi, e1, e2, e3, Bool.not_true, cond_false]
    rw [wrap64 (by omega) (by omega), show (pre.length : Int) + 1 = ((pre ++ [a]).length : Int) by simp]
    exact e4
  obtain ⟨N, hN⟩ := key w.values [] rfl
  exact ⟨N + w.values.length + 1, fun n hn => hN n (by omega) n (by omega)⟩
theorem SV (w : S_api_World) (v : Val) (x : S_refinementlaw03_Turned) (hs : ∀ d ∈ w.env.names, d.name.length ≤ 9223372036854775807) (hw : ∀ v ∈ w.values, dw v) (hv : dw v) (hf : dS v) : Ev (fun n => xR n w v x) true := by
 unfold xR uh
 refine Ev.bind (a := cond (!(decide ((w.env.carriers.length : Int) ≤ 100) && decide ((w.env.names.length : Int) ≤ 100))) true (decide (1000 < (x.perm.length : Int)))) (Ev.bind (a := decide ((w.env.carriers.length : Int) ≤ 100) && decide ((w.env.names.length : Int) ≤ 100)) ?_ ?_) ?_
 ·cases decide ((w.env.carriers.length : Int) ≤ 100) <;> exact Ev.ret _
 ·cases (decide ((w.env.carriers.length : Int) ≤ 100) && decide ((w.env.names.length : Int) ≤ 100)) <;> exact Ev.ret _
 ·cases cond (!(decide ((w.env.carriers.length : Int) ≤ 100) && decide ((w.env.names.length : Int) ≤ 100))) true (decide (1000 < (x.perm.length : Int))) with
  | true => exact q9
  | false =>
   simp only [cond_false]
   refine Ev.bind (aak w x.carrier x.perm hs) (Ev.bind (XO w x.carrier x.perm hw) ?_)
   simp only [oZ, cond_false]
   refine Ev.bind (a := false) (Ev.bind (BA _) (Ev.ret _)) ?_
   simp only [cond_false]
   refine Ev.bind (aaO w x hw) ?_
   show Ev (fun n => Option.bind _ _) true
   obtain ⟨b, hb⟩ := adW v
   refine Ev.bind (a := true) (Ev.bind hb ?_) (Ev.ret _)
   cases b with
   | false => exact q9
   | true =>
    refine Ev.bind (PV x.carrier x.perm v hf) (Ev.bind (KZ x.carrier x.perm v hf hv) (Ev.bind (nU _) q9))
end Abs
end Go.Proofs.YtkopaeklihhdlaaGreat

/-
  Free names; the law TypingConditions of plain data. Conditions: names are no longer than a string may be; lemmas without a program.
-/
import Derived.Test.YtiiaccpcoclklaaGreatCP13x26f526
set_option linter.unusedSimpArgs false
set_option linter.unusedVariables false
namespace Go.Proofs.YtiiaccpcoclklaaGreat
namespace Abs
open Go
mutual
def dw : Tm → List Str → List Str
 | .mk op nm _ _ ks, b => cond (op == 20) (cond (b.any fun x => x == nm) [] [nm]) (oU (bN op) nm 0 ks b)
def oU : Bool → Str → Int → List Tm → List Str → List Str
 | _, _, _, [], _ => []
 | bd, nm, i, t :: ts, b => dw t (cond (bd && i == 1) (b ++ [nm]) b) ++ oU bd nm (i + 1) ts b
end
mutual
theorem KD : ∀ (t : Tm) (d c : Int) (b : List Str), (mf t d c).1 = true → ((dw t b).length : Int) + c ≤ (mf t d c).2
 | .mk op nm m ty ks, d, c, b, h => by
  simp only [mf] at h ⊢
  cases hb : ((decide (c + 1 ≤ 2000) && decide (d ≤ 64)) && mG (.mk op nm m ty ks)) with
  | false => rw [hb] at h; cases h
  | true =>
   rw [hb] at h
   simp only [cond_true] at h ⊢
   have hk := JF ks (d + 1) (c + 1) (bN op) nm 0 b h
   have hle := (G5 ks (d + 1) (c + 1) h).1
   simp only [dw]
   cases op == 20 with
   | true =>
    cases b.any fun x => x == nm with
    | true => simp only [cond_true, List.length_nil]; omega
    | false => simp only [cond_true, cond_false, List.length_singleton]; omega
   | false => simp only [cond_false]; omega
theorem JF : ∀ (ts : List Tm) (d c : Int) (bd : Bool) (nm : Str) (i : Int) (b : List Str), (lT ts d c).1 = true → ((oU bd nm i ts b).length : Int) + c ≤ (lT ts d c).2
 | [], d, c, bd, nm, i, b, _ => by simp [oU, lT]
 | t :: ts, d, c, bd, nm, i, b, h => by
  simp only [lT] at h ⊢
  cases hb : (mf t d c).1 with
  | false => rw [hb] at h; cases h
  | true =>
   rw [hb] at h
   simp only [cond_true] at h ⊢
   have h1 := KD t d c (cond (bd && i == 1) (b ++ [nm]) b) hb
   have h2 := JF ts d _ bd nm (i + 1) b h
   simp only [oU, List.length_append, Int.natCast_add]
   omega
end
theorem Wf.Nu {d : Int} {t : Tm} (h : Wf d t) (b : List Str) : (dw t b).length ≤ 2000 := by
 obtain ⟨c, h0, h⟩ := h
 have h1 := KD t d c b h
 have h2 := (AB t d c h).2
 omega
theorem Vh (n : Nat) (b : List Str) (nm : Str) (h : b.length ≤ 1000) : wR n b nm = some (b ++ [nm]) := by
 unfold wR
 rw [pq (by simp; omega) (by omega)]
 simp only [Option.bind_some, List.nil_append]
 rw [pq (by simp; omega) (by omega)]
 rfl
def V6 (op : Int) (nm : Str) (b : List Str) (i : Int) (x : Tm) (s : List Str) : LR (List Str) (List Str) := .nx (s ++ dw x (cond (bN op && i == 1) (b ++ [nm]) b))
theorem NU (op : Int) (nm : Str) (b : List Str) : ∀ (ts : List Tm) (i : Int) (acc : List Str), kU (V6 op nm b) (fun s => s) i ts acc = .nx (acc ++ oU (bN op) nm i ts b)
 | [], i, acc => by simp [kU, oU]
 | t :: ts, i, acc => by
  simp only [kU, V6, oU]
  have := NU op nm b ts (i + 1) (acc ++ dw t (cond (bN op && i == 1) (b ++ [nm]) b))
  rw [this, List.append_assoc]
theorem Uu : ∀ t : Tm, ∀ (d : Int) (b : List Str), Wf d t → (b.length : Int) < d → Ev (fun n => pI n t b) (dw t b) := Tm.ind fun op nm m ty ks ih d b hw hb => by
 obtain ⟨hnode, hd, hks, hkw⟩ := hw.node
 have hfl := hw.Nu b
 refine Ev.succ ?_
 show Ev (fun n => qo n (fun p0 p1 => pI n p0 p1) (.mk op nm m ty ks) b) _
 unfold qo
 simp only [Tm.op, Tm.name, dw] at hfl ⊢
 cases h20 : (op == 20) with
 | true =>
  simp only [cond_true]
  refine Ev.bind (FJ nm b) ?_
  cases b.any fun x => x == nm
  ·exact Ev.ret _
  ·exact Ev.ret _
 | false =>
  rw [h20] at hfl
  simp only [cond_false] at hfl ⊢
  have hloop := Oj ks (fun n k i (s : List Str) => tq n (fun p0 p1 => pI n p0 p1) (.mk op nm m ty ks) b k (s, i))
   (fun n i x s => ((((((qw n op).bind fun (x6 : Bool) => (cond x6 (some (i == 1)) (some false))) : Option Bool).bind fun (s4 : Bool) => (cond s4 ((wR n b nm).bind fun (x5 : List Str) => some x5) (some b))) : Option (List Str)).bind fun (s3 : List Str) => ((pI n x s3).bind fun (x3 : List Str) => ((app 16 s x3).bind fun (x4 : List Str) => some (.nx x4)))))
   (V6 op nm b) (fun s => s) (fun i suf s => s.length + (oU (bN op) nm i suf b).length ≤ 2000)
   (fun n k s => by
    show cond (decide ((ks.length : Int) < (ks.length : Int))) _ _ = _
    rw [decide_eq_false (by omega)]
    rfl)
   (fun n k i x s hx hi => by
    show cond (decide (i < (ks.length : Int))) _ _ = _
    rw [hi]
    simp only [cond_true, Tm.op, Tm.name, Tm.kids, hx, Option.bind_some]
    conv => rhs; rw [Option.bind_assoc]
    congr 1
    funext s3
    conv => rhs; rw [Option.bind_assoc]
    congr 1
    funext x3
    conv => rhs; rw [Option.bind_assoc]
    rfl)
   (fun i x suf s hx hI hidx => by
    simp only [oU, List.length_append] at hI
    refine ⟨?_, fun s' hs' => ?_⟩
    ·refine Ev.bind (a := cond (bN op && i == 1) (b ++ [nm]) b) ?_ ?_
     ·simp only [JD, Option.bind_some]
      refine Ev.bind (a := bN op && i == 1) ?_ ?_
      ·cases bN op
       ·exact Ev.ret _
       ·exact Ev.ret _
      ·cases (bN op && i == 1) with
       | false => exact Ev.ret _
       | true =>
        simp only [cond_true]
        simp only [Vh _ b nm (show b.length ≤ 1000 by omega)]
        exact Ev.ret _
     ·have hl : ((cond (bN op && i == 1) (b ++ [nm]) b).length : Int) < d + 1 := by
       cases (bN op && i == 1) with
       | false => simp only [cond_false]; omega
       | true => simp only [cond_true, List.length_append, List.length_singleton, Int.natCast_add, Int.natCast_one]; omega
      refine Ev.bind (ih x hx (d + 1) _ (hkw x hx) hl) ?_
      rw [pq (by omega) (by omega)]
      exact Ev.ret _
    ·cases hs'
     simp only [List.length_append]
     omega) (s0 := []) (by simpa using hfl)
  rw [NU, List.nil_append] at hloop
  exact Ev.bind hloop (Ev.ret _)
def u6 (t : Tm) : List Str := cond (jQ t) (Gq (dw t [])) []
theorem Nl (t : Tm) : Ev (fun n => wT n t) (u6 t) := by
 unfold wT u6
 refine Ev.bind (Me t) ?_
 cases h : jQ t with
 | false => exact Ev.ret _
 | true =>
  simp only [Bool.not_true, cond_false, cond_true]
  refine Ev.bind (Uu t 1 [] (oP h) (by simp)) ?_
  have := (oP h).Nu []
  exact Ev.bind (Pv _ (by omega)) (Ev.ret _)
theorem vo : ∀ (ks : List Tm) (nm : Str) (i : Int) (b : List Str) (x : Str), x ∈ oU false nm i ks b ↔ ∃ k ∈ ks, x ∈ dw k b
 | [], nm, i, b, x => by simp [oU]
 | t :: ts, nm, i, b, x => by
  simp only [oU, Bool.false_and, cond_false, List.mem_append, vo ts nm (i + 1) b x, List.mem_cons, exists_eq_or_imp]
theorem Ba {op : Int} (h20 : (op == 20) = false) (hb : bN op = false) {ks : List Tm} {b : List Str} {x : Str} : x ∈ dw (fH op ks) b ↔ ∃ k ∈ ks, x ∈ dw k b := by
 show x ∈ dw (.mk op [] 0 bM ks) b ↔ _
 simp only [dw, h20, cond_false, hb]
 exact vo ks [] 0 b x
theorem FZ (b : List Str) : dw mM b = [] := rfl
theorem Rc (m : Int) (b : List Str) : dw (xG m) b = [] := rfl
theorem qK {p q : Tm} {b : List Str} {x : Str} (h : x ∈ dw (fV p q) b) : x ∈ dw p b ∨ x ∈ dw q b := by
 unfold fV at h
 cases hp : p.op == 1 with
 | true => rw [hp] at h; exact .inr h
 | false =>
  rw [hp] at h
  cases hq : q.op == 1 with
  | true => rw [hq] at h; exact .inl h
  | false =>
   rw [hq] at h
   simp only [cond_false] at h
   rw [Ba rfl rfl] at h
   simpa using h
theorem MS {op : Int} (h20 : (op == 20) = false) (hb : bN op = false) {p q : Tm} {b : List Str} {x : Str} (h : x ∈ dw (oV op p q) b) : x ∈ dw p b ∨ x ∈ dw q b := by
 unfold oV at h
 cases hq : q.op == 1 with
 | true => rw [hq] at h; exact .inr h
 | false =>
  rw [hq] at h
  simp only [cond_false] at h
  rw [Ba h20 hb] at h
  simpa using h
theorem TL {nm : Str} {p q : Tm} {b : List Str} {x : Str} (ht : (q.op == 1) = true → q = mM) (h : x ∈ dw (allT nm p q) b) : x ∈ dw p b ∨ x ∈ dw q (b ++ [nm]) := by
 unfold allT at h
 cases hq : q.op == 1 with
 | true => rw [hq, cond_true, ht hq, FZ] at h; cases h
 | false =>
  rw [hq, cond_false] at h
  simp only [dw, oU, show ((8 : Int) == 20) = false from rfl, cond_false, show bN 8 = true from rfl, Bool.true_and, show ((0 : Int) == 1) = false from rfl, show ((0 : Int) + 1 == 1) = true from rfl, cond_true, List.append_nil, List.mem_append] at h
  exact h
theorem KE : ∀ {l : List Tm} {s : Tm} {b : List Str} {x : Str}, x ∈ dw (l.foldl fV s) b → x ∈ dw s b ∨ ∃ d ∈ l, x ∈ dw d b
 | [], _, _, _, h => .inl h
 | d :: l, s, b, x, h => by
  rcases KE (l := l) (s := fV s d) h with h | ⟨e, he, h⟩
  ·rcases qK h with h | h
   ·exact .inl h
   ·exact .inr ⟨d, by simp, h⟩
  ·exact .inr ⟨e, by simp [he], h⟩
theorem Iz {ks : List Tm} {b : List Str} {x : Str} (h : x ∈ dw (og ks) b) : ∃ k ∈ ks, x ∈ dw k b := by
 cases ks with
 | nil => cases h
 | cons a l => exact ⟨a, by simp, h⟩
theorem IQ {ks : List Tm} {b : List Str} {x : Str} (h : x ∈ dw (qd ks) b) : ∃ k ∈ ks, x ∈ dw k b := by
 match ks, h with
 | [], h => cases h
 | [_], h => cases h
 | _ :: c :: l, h => exact ⟨c, by simp, h⟩
theorem wP {op : Int} (h20 : (op == 20) = false) (hb : bN op = false) {p q : Tm} {b : List Str} {x : Str} (h : x ∈ dw (fH op [p, q]) b) : x ∈ dw p b ∨ x ∈ dw q b := by
 rw [Ba h20 hb] at h
 simpa using h
theorem IB {op : Int} (h20 : (op == 20) = false) (hb : bN op = false) {p : Tm} {b : List Str} {x : Str} (h : x ∈ dw (fH op [p]) b) : x ∈ dw p b := by
 rw [Ba h20 hb] at h
 simpa using h
theorem RS {op : Int} {ks : List Tm} {D : Tm} {b : List Str} {x : Str} (h : x ∈ dw (sW op ks D) b) : x ∈ dw D b ∨ ∃ k ∈ ks, x ∈ dw k b := by
 have num : ∀ m, x ∉ dw (xG m) b := fun m h => by rw [Rc] at h; cases h
 unfold sW at h
 cases h25 : op == 25 with
 | true =>
  rw [h25, cond_true] at h
  rcases qK h with h | h
  ·exact .inl h
  ·rcases wP rfl rfl h with h | h
   ·exact .inr (IQ h)
   ·exact absurd h (num 0)
 | false =>
  rw [h25, cond_false] at h
  cases h26 : op == 26 with
  | true =>
   rw [h26, cond_true] at h
   rcases qK h with h | h
   ·rcases qK h with h | h
    ·exact .inl h
    ·rcases wP rfl rfl h with h | h
     ·exact absurd h (num 0)
     ·exact .inr (Iz h)
   ·rcases wP rfl rfl h with h | h
    ·exact absurd h (num 0)
    ·exact .inr (IQ h)
  | false =>
   rw [h26, cond_false] at h
   cases h48 : (op == 48 || op == 49) with
   | true =>
    rw [h48, cond_true] at h
    rcases qK h with h | h
    ·exact .inl h
    ·rcases wP rfl rfl h with h | h
     ·exact absurd h (num 0)
     ·exact .inr (Iz (IB rfl rfl h))
   | false =>
    rw [h48, cond_false] at h
    cases h54 : op == 54 with
    | true =>
     rw [h54, cond_true] at h
     rcases qK h with h | h
     ·exact .inl h
     ·rcases wP rfl rfl h with h | h
      ·rcases wP rfl rfl (IB rfl rfl h) with h | h
       ·exact .inr (Iz h)
       ·exact .inr (IQ (IB rfl rfl h))
      ·exact absurd h (num 1)
    | false => rw [h54, cond_false] at h; exact .inl h
theorem R6 : ∀ t : Tm, ∀ (d : Int), Wf d t → ∀ (b : List Str) (x : Str), x ∈ dw (dA t) b → x ∈ dw t b := Tm.ind fun op nm m ty ks ih d hw b x h => by
 obtain ⟨hnode, _, hks, hkw⟩ := hw.node
 obtain ⟨hop, h20k, _, hlen, hbk⟩ := sK hnode
 have two : bY op = 2 → ∃ a b, ks = [a, b] := fun h => by
  have hl := (hlen (ks.map fun _ => bM) (by simp)).two h
  exact dS ks (by simpa using hl)
 have ihk : ∀ u ∈ ks, ∀ b x, x ∈ dw (dA u) b → x ∈ dw u b := fun u hu => ih u hu (d + 1) (hkw u hu)
 simp only [dA, Bg, qB] at h
 cases h20 : (op == 20) with
 | true =>
  have e : op = 20 := by simpa using h20
  have hk := h20k e
  subst hk e
  have h' : x ∈ dw mM b := h
  rw [FZ] at h'
  cases h'
 | false =>
  simp only [dw, h20, cond_false]
  cases h46 : (op == 4 || op == 6) with
  | true =>
   rw [h46, cond_true] at h
   have hq : bY op = 2 ∧ bN op = false := by
    simp only [Bool.or_eq_true, beq_iff_eq] at h46
    rcases h46 with rfl | rfl <;> exact ⟨rfl, rfl⟩
   obtain ⟨p, q, rfl⟩ := two hq.1
   rw [hq.2, vo]
   rcases qK h with h | h
   ·exact ⟨p, by simp, ihk p (by simp) b x h⟩
   ·rcases MS rfl rfl h with h | h
    ·exact ⟨p, by simp, h⟩
    ·exact ⟨q, by simp, ihk q (by simp) b x h⟩
  | false =>
   rw [h46, cond_false] at h
   cases h5 : (op == 5) with
   | true =>
    rw [h5, cond_true] at h
    have e5 : op = 5 := by simpa using h5
    subst e5
    obtain ⟨p, q, rfl⟩ := two rfl
    rw [show bN 5 = false from rfl, vo]
    rcases qK h with h | h
    ·exact ⟨p, by simp, ihk p (by simp) b x h⟩
    ·rcases MS rfl rfl h with h | h
     ·exact ⟨p, by simp, h⟩
     ·exact ⟨q, by simp, ihk q (by simp) b x h⟩
   | false =>
    rw [h5, cond_false] at h
    cases hb : bN op with
    | true =>
     rw [hb, cond_true] at h
     obtain ⟨p, q, rfl⟩ := hbk hb
     simp only [oU, Bool.true_and, show ((0 : Int) == 1) = false from rfl, show ((0 : Int) + 1 == 1) = true from rfl, cond_false, cond_true, List.append_nil, List.mem_append]
     rcases qK h with h | h
     ·exact .inl (ihk p (by simp) b x h)
     ·rcases TL (Nk q (d + 1) (hkw q (by simp))) h with h | h
      ·exact .inl h
      ·exact .inr (ihk q (by simp) _ x h)
    | false =>
     rw [hb, cond_false] at h
     rw [vo]
     rcases RS h with h | h
     ·rcases KE h with h | ⟨e, he, h⟩
      ·rw [FZ] at h; cases h
      ·obtain ⟨k, hk, rfl⟩ := List.mem_map.1 he
       exact ⟨k, hk, ihk k hk b x h⟩
     ·exact h
theorem AZ (env : Env) (t : Tm) (hs : CY env) (ht : gU t) : Ev (fun n => ny n env t) true := by
 unfold ny xW
 refine Ev.bind (RI env) ?_
 cases KP env with
 | false => exact Ev.ret _
 | true =>
  simp only [Bool.not_true, cond_false]
  refine Ev.bind (wm env t hs ht) ?_
  cases he : ((mX env t).2.2 != 0) with
  | true =>
   have hd : zq env t = (Gg, (mX env t).2.2) := by unfold zq; rw [he]; rfl
   rw [hd]
   simp only [he, cond_true]
   exact Ev.ret _
  | false =>
   obtain ⟨hv, hm, ty, hty, hte⟩ := Jp he
   cases hd : jQ (dA t) with
   | false =>
    have hde : zq env t = (Gg, 5) := by unfold zq; rw [he, hd]; rfl
    rw [hde]
    exact Ev.ret _
   | true =>
    have hde : zq env t = (dA t, 0) := by unfold zq; rw [he, hd]; rfl
    rw [hde]
    simp only [show ((0 : Int) != 0) = false from rfl, cond_false]
    refine Ev.bind (Nl (dA t)) ?_
    refine Ev.bind (Nl t) ?_
    have hsub : ∀ x ∈ u6 (dA t), ((u6 t).any fun y => y == x) = true := fun x hx => by
     unfold u6 at hx ⊢
     rw [hd, cond_true, (GN _).2] at hx
     rw [hm, cond_true, List.any_eq_true]
     exact ⟨x, ((GN _).2 x).2 (R6 t 1 (oP hm) [] x hx), beq_self_eq_true x⟩
    have hl := qh (u6 (dA t)) (fun n k i => jB n (u6 (dA t)) (u6 t) k i) (fun n x => (y5 n x (u6 t)).bind fun b => some (!b)) (fun _ => false) false
     (fun n k i => by
      show cond _ _ _ = _
      congr 1
      congr 1
      funext x
      simp only [Option.bind_assoc, Option.bind_some])
     (fun x hx => by
      refine Ev.bind (FJ x (u6 t)) ?_
      rw [hsub x hx]
      exact Ev.ret _)
    rw [WI] at hl
    refine Ev.bind hl ?_
    simp only [cond_false, LR.el]
    have htS := Oa t ht
    refine Ev.bind (wm env (dA t) hs htS) ?_
    have hgv : Bb [] := fun x hx => by cases hx
    have hT := Vk hv t 1 [] ty (oP hm) hgv hty
    have hte2 : mX env (dA t) = (dn, [], 0) := by
     unfold mX
     rw [hv, hd, hT]
     rfl
    have hd2 : zq env (dA t) = cond (jQ (dA (dA t))) (dA (dA t), 0) (Gg, 5) := by
     unfold zq
     rw [hte2]
     rfl
    refine Ev.bind (a := false) ?_ ?_
    ·rw [hd2]
     cases jQ (dA (dA t)) with
     | true => exact Ev.ret _
     | false => exact Ev.ret _
    ·simp only [cond_false]
     refine Ev.bind (a := true) (Ev.bind (Cx env (dA t) hs htS) ?_) (Ev.ret _)
     have hp : Po env (dA t) = 0 := by
      unfold Po
      rw [hte2]
      rfl
     rw [hp]
     simp only [show ((0 : Int) == 0) = true from rfl, cond_true]
     refine Ev.bind (GR t ht) ?_
     have : OO t = ((dA t).op == 1) := by
      unfold OO
      rw [hm, WA t 1 (oP hm)]
      rfl
     rw [this]
     simp only [beq_self_eq_true, cond_true]
     exact Ev.ret _
end Abs
end Go.Proofs.YtiiaccpcoclklaaGreat

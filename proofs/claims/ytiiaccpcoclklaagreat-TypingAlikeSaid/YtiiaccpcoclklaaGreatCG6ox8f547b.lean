/-
  Lists of numbers that can be read stand for plain data. Conditions: none.
-/
import Derived.Test.YtiiaccpcoclklaaGreatCP15x9fab29
import Derived.Test.YtiiaccpcoclklaaGreatCDhoxdcaf96
set_option linter.unusedSimpArgs false
set_option linter.unusedVariables false
namespace Go.Proofs.YtiiaccpcoclklaaGreat
namespace Abs
open Go Go.Proofs Go.Deep Go.WideShapes
variable {H : Type} {enc : TypeId × Value → H} {w : World} {base : Nat} {spare : Nat → Bool} {held : Bool} {κ : dG} {pv : gY}
set_option maxRecDepth 100000 in
theorem aiM {r : Reach} {b0 : Nat} {v : Value} {d : DataW H} {p : List MemPlace} (hv : Value.okWide Tryz.prog w r b0 34 v) (h : DataW.Trod enc Tryz.prog w base spare held 34 v d p) (hpv : ∀ b o, ¬ pv b o) : ∃ l : List Int, Rel w κ pv (.slice (l.map encI) .shared) v := by
 obtain ⟨a, len, cap, rfl⟩ := okWide_slice Tryz.underlying34 hv
 obtain ⟨fuel, hf⟩ := h
 obtain ⟨l, h1, h2⟩ := vP (κ := κ) (f := encI) Tryz.underlying34 cl3 (by decide) (fun _ => rfl) hpv (fun m _ => Fu Tryz.underlying3 m) _ _ hf
 exact ⟨l, h2 0 (by simp)⟩
end Abs
end Go.Proofs.YtiiaccpcoclklaaGreat
namespace Go.Proofs.YtiiaccpcoclklaaGreat
namespace Abs
open Go
mutual
theorem ait : ∀ (t : Tm) (d c d' c' : Int), (mf t d c).1 = true → d' ≤ d → c' ≤ c → (mf t d' c').1 = true ∧ (mf t d' c').2 - c' = (mf t d c).2 - c
 | .mk op nm m ty ks, d, c, d', c', h, hd, hc => by
  simp only [mf] at h ⊢
  cases hb : ((decide (c + 1 ≤ 2000) && decide (d ≤ 64)) && fD (.mk op nm m ty ks)) with
  | false => rw [hb] at h; cases h
  | true =>
   rw [hb] at h
   simp only [Bool.and_eq_true, decide_eq_true_eq] at hb
   have e : ((decide (c' + 1 ≤ 2000) && decide (d' ≤ 64)) && fD (.mk op nm m ty ks)) = true := by
    rw [decide_eq_true (show c' + 1 ≤ 2000 by omega), decide_eq_true (show d' ≤ 64 by omega), hb.2]
    rfl
   rw [e]
   simp only [cond_true] at h ⊢
   have := aeV ks (d + 1) (c + 1) (d' + 1) (c' + 1) h (by omega) (by omega)
   exact ⟨this.1, by omega⟩
theorem aeV : ∀ (ts : List Tm) (d c d' c' : Int), (jy ts d c).1 = true → d' ≤ d → c' ≤ c → (jy ts d' c').1 = true ∧ (jy ts d' c').2 - c' = (jy ts d c).2 - c
 | [], _, _, _, _, _, _, _ => by simp only [jy]; exact ⟨trivial, by omega⟩
 | t :: ts, d, c, d', c', h, hd, hc => by
  simp only [jy] at h ⊢
  cases hb : (mf t d c).1 with
  | false => rw [hb] at h; cases h
  | true =>
   rw [hb] at h
   simp only [cond_true] at h ⊢
   have h1 := ait t d c d' c' hb hd hc
   rw [h1.1]
   simp only [cond_true]
   have h2 := aeV ts d _ d' (mf t d' c').2 h hd (by omega)
   exact ⟨h2.1, by omega⟩
end
theorem Wf.valid {d : Int} {t : Tm} (h : Wf d t) (hd : 1 ≤ d) : cu t = true := by
 obtain ⟨c, h0, h⟩ := h
 exact (ait t d c 1 0 h hd h0).1
def without (env : Env) (s : Str) : Env := ⟨env.carriers, env.names.filter fun d => !(d.name == s)⟩
end Abs
end Go.Proofs.YtiiaccpcoclklaaGreat
namespace Go.Proofs.YtiiaccpcoclklaaGreat
namespace Abs
open Go
theorem Gn : ∀ a b : Str, Op.bytesLess a b = true ↔ a < b
 | [], [] => by simp [Op.bytesLess]
 | [], b :: y => by simp [Op.bytesLess]
 | a :: x, [] => by simp [Op.bytesLess]
 | a :: x, b :: y => by
  simp only [Op.bytesLess, Bool.or_eq_true, decide_eq_true_eq, Bool.and_eq_true, beq_iff_eq, List.cons_lt_cons_iff, Gn x y]
theorem MO {a b c : Str} (h1 : Op.bytesLess a b = true) (h2 : Op.bytesLess b c = true) : Op.bytesLess a c = true :=
 (Gn a c).2 (List.lt_trans ((Gn a b).1 h1) ((Gn b c).1 h2))
theorem afx {a b : Str} (h1 : Op.bytesLess a b = false) (h2 : Op.bytesLess b a = false) : a = b := by
 have k1 : ¬ a < b := fun h => by rw [(Gn a b).2 h] at h1; cases h1
 have k2 : ¬ b < a := fun h => by rw [(Gn b a).2 h] at h2; cases h2
 exact List.le_antisymm (List.not_lt.1 k2) (List.not_lt.1 k1)
def Asc (l : List Str) : Prop := l.Pairwise fun a b => Op.bytesLess a b = true
def Ci (l : List Str) (x : Str) : List Str := (l.takeWhile fun a => Op.bytesLess a x) ++ (cond ((l.dropWhile fun a => Op.bytesLess a x).head? == some x) (l.dropWhile fun a => Op.bytesLess a x) (x :: l.dropWhile fun a => Op.bytesLess a x))
theorem arw {l : List Str} {x a : Str} (h : a ∈ l.takeWhile fun a => Op.bytesLess a x) : Op.bytesLess a x = true := by
 have := List.all_takeWhile (p := fun a => Op.bytesLess a x) (l := l)
 rw [List.all_eq_true] at this
 exact this a h
theorem anc (l : List Str) (x y : Str) : y ∈ Ci l x ↔ y ∈ l ∨ y = x := by
 have hl : y ∈ l ↔ y ∈ (l.takeWhile fun a => Op.bytesLess a x) ∨ y ∈ (l.dropWhile fun a => Op.bytesLess a x) := by
  rw [← List.mem_append, List.takeWhile_append_dropWhile]
 unfold Ci
 rw [List.mem_append, hl]
 cases hc : ((l.dropWhile fun a => Op.bytesLess a x).head? == some x) with
 | false =>
  simp only [cond_false, List.mem_cons]
  constructor
  ·rintro (h | h | h)
   ·exact .inl (.inl h)
   ·exact .inr h
   ·exact .inl (.inr h)
  ·rintro ((h | h) | h)
   ·exact .inl h
   ·exact .inr (.inr h)
   ·exact .inr (.inl h)
 | true =>
  simp only [cond_true]
  have hx : x ∈ (l.dropWhile fun a => Op.bytesLess a x) := by
   have e := eq_of_beq hc
   exact List.mem_of_mem_head? e
  constructor
  ·rintro (h | h)
   ·exact .inl (.inl h)
   ·exact .inl (.inr h)
  ·rintro ((h | h) | h)
   ·exact .inl h
   ·exact .inr h
   ·rw [h]; exact .inr hx
theorem anV {l : List Str} (hl : Asc l) {x a : Str} (h : a ∈ l.dropWhile fun a => Op.bytesLess a x) : Op.bytesLess a x = false := by
 induction l with
 | nil => cases h
 | cons b l ih =>
  have hb := List.pairwise_cons.1 hl
  rw [List.dropWhile_cons] at h
  cases hc : Op.bytesLess b x with
  | true => rw [hc, if_pos rfl] at h; exact ih hb.2 h
  | false =>
   rw [hc, if_neg (by decide)] at h
   rcases List.mem_cons.1 h with rfl | h
   ·exact hc
   ·cases ha : Op.bytesLess a x with
    | false => rfl
    | true => have := MO (hb.1 a h) ha; rw [hc] at this; cases this
theorem anC {l : List Str} (hl : Asc l) (x : Str) : Asc (Ci l x) := by
 have hsplit : Asc ((l.takeWhile fun a => Op.bytesLess a x) ++ l.dropWhile fun a => Op.bytesLess a x) := by
  rw [List.takeWhile_append_dropWhile]; exact hl
 unfold Asc at hsplit
 rw [List.pairwise_append] at hsplit
 obtain ⟨h1, h2, h3⟩ := hsplit
 unfold Ci Asc
 rw [List.pairwise_append]
 cases hc : ((l.dropWhile fun a => Op.bytesLess a x).head? == some x) with
 | true => exact ⟨h1, h2, h3⟩
 | false =>
  simp only [cond_false]
  refine ⟨h1, List.pairwise_cons.2 ⟨fun a ha => ?_, h2⟩, fun a ha b hb => ?_⟩
  ·have hge := anV hl ha
   cases hxa : Op.bytesLess x a with
   | true => rfl
   | false =>
    exfalso
    have e := afx hge hxa
    subst e
    -- a is in the rest, so it is its head
    cases hd : l.dropWhile fun b => Op.bytesLess b a with
    | nil => rw [hd] at ha; cases ha
    | cons b m =>
     rw [hd] at ha hc h2
     rcases List.mem_cons.1 ha with rfl | hm
     ·simp at hc
     ·have k := (List.pairwise_cons.1 h2).1 a hm
      have hb : b ∈ l.dropWhile fun b => Op.bytesLess b a := by rw [hd]; exact List.mem_cons_self ..
      rw [anV hl hb] at k
      cases k
  ·rcases List.mem_cons.1 hb with rfl | hb
   ·exact arw ha
   ·exact h3 a ha b hb
theorem ami {α : Type} (P : List α) (y v : α) (R : List α) (i : Int) (h : i = (P.length : Int)) : upd (P ++ y :: R) i v = P ++ v :: R := by
 subst h
 unfold upd
 simp
theorem abn {α : Type} (P : List α) (y : α) (R : List α) (i : Int) (h : i = (P.length : Int)) : idx (P ++ y :: R) i = some y := by
 subst h
 exact zC P y R
theorem acp (l : List Str) (e : Str) (k : Nat) (hl : l.length ≤ 1000000) : ∀ (d n f : Nat), k + d ≤ l.length → d + 1 ≤ f →
  qz n (k : Int) f ((l ++ [e]).take (k + d + 1) ++ l.drop (k + d), ((k + d : Nat) : Int)) = some (.nx ((l ++ [e]).take (k + 1) ++ l.drop k))
 | 0, n, f, hd, hf => by
  cases f with
  | zero => omega
  | succ f =>
   show cond (decide ((k : Int) < ((k + 0 : Nat) : Int))) _ _ = _
   rw [decide_eq_false (by omega)]
   rfl
 | d + 1, n, f, hd, hf => by
  cases f with
  | zero => omega
  | succ f =>
   show cond (decide ((k : Int) < ((k + (d + 1) : Nat) : Int))) _ _ = _
   rw [decide_eq_true (by omega)]
   simp only [cond_true]
   rw [wrap64 (by omega) (by omega)]
   have hj : k + d < l.length := by omega
   -- the list around the two places
   have e1 : (l ++ [e]).take (k + (d + 1) + 1) = (l ++ [e]).take (k + d) ++ [l[k + d]] ++ [(l ++ [e])[k + d + 1]'(by simp; omega)] := by
    rw [show k + (d + 1) + 1 = (k + d + 1) + 1 from by omega, List.take_succ_eq_append_getElem (by simp; omega), List.take_succ_eq_append_getElem (by simp; omega)]
    rw [List.getElem_append_left hj]
   have hlen : ((l ++ [e]).take (k + d)).length = k + d := by simp; omega
   have hi : idx ((l ++ [e]).take (k + (d + 1) + 1) ++ l.drop (k + (d + 1))) (((k + (d + 1) : Nat) : Int) - 1) = some l[k + d] := by
    rw [e1, List.append_assoc, List.append_assoc]
    exact abn _ _ _ _ (by rw [hlen]; omega)
   have hi2 : idx ((l ++ [e]).take (k + (d + 1) + 1) ++ l.drop (k + (d + 1))) ((k + (d + 1) : Nat) : Int) = some ((l ++ [e])[k + d + 1]'(by simp; omega)) := by
    rw [e1, List.append_assoc]
    exact abn _ _ _ _ (by simp; omega)
   rw [hi, hi2]
   simp only [Option.bind_some]
   have hu : upd ((l ++ [e]).take (k + (d + 1) + 1) ++ l.drop (k + (d + 1))) ((k + (d + 1) : Nat) : Int) l[k + d] = (l ++ [e]).take (k + d + 1) ++ l.drop (k + d) := by
    rw [e1, List.append_assoc]
    have := ami ((l ++ [e]).take (k + d) ++ [l[k + d]]) ((l ++ [e])[k + d + 1]'(by simp; omega)) l[k + d] (l.drop (k + (d + 1))) ((k + (d + 1) : Nat) : Int) (by simp; omega)
    simp only [List.singleton_append] at this ⊢
    rw [this]
    rw [List.take_succ_eq_append_getElem (by simp; omega), List.getElem_append_left hj, List.drop_eq_getElem_cons hj]
    rfl
   rw [hu]
   have e3 : ((k + (d + 1) : Nat) : Int) - 1 = ((k + d : Nat) : Int) := by omega
   rw [e3]
   exact acp l e k hl d n f (by omega) (by omega)
theorem afo (p0 : List Str) (out : List Str) (i : Int) (x : Str) (hx : idx p0 i = some x) (hl : out.length ≤ 1000000) : ∀ (suf pre : List Str) (n f : Nat), out = pre ++ suf → suf.length + 1 ≤ f →
  qG n p0 (out, i) f (pre.length : Int) = some (.nx ((pre.length : Int) + ((suf.takeWhile fun a => Op.bytesLess a x).length : Int)))
 | [], pre, n, f, ho, hf => by
  cases f with
  | zero => omega
  | succ f =>
   show Option.bind (cond (decide ((pre.length : Int) < (out.length : Int))) _ _) _ = _
   rw [decide_eq_false (by rw [ho]; simp)]
   simp
 | a :: suf, pre, n, f, ho, hf => by
  cases f with
  | zero => omega
  | succ f =>
   show Option.bind (cond (decide ((pre.length : Int) < (out.length : Int))) ((idx out (pre.length : Int)).bind _) _) _ = _
   rw [decide_eq_true (by rw [ho]; simp; omega)]
   have hi : idx out (pre.length : Int) = some a := by rw [ho]; exact zC pre a suf
   rw [hi]
   simp only [cond_true, Option.bind_some, hx]
   rw [List.takeWhile_cons]
   cases hb : Op.bytesLess a x with
   | false => simp
   | true =>
    simp only [cond_true, if_true]
    have hle : pre.length + 1 ≤ 1000000 := by rw [ho] at hl; simp at hl; omega
    rw [wrap64 (by omega) (by omega)]
    have := afo p0 out i x hx hl suf (pre ++ [a]) n f (by rw [ho]; simp) (by simp at hf; omega)
    simp only [List.length_append, List.length_singleton, Int.natCast_add, Int.natCast_one] at this
    rw [this]
    simp only [List.length_cons, Int.natCast_add, Int.natCast_one]
    congr 2
    omega
theorem aot (l : List Str) (x : Str) : l.take (l.takeWhile fun a => Op.bytesLess a x).length = l.takeWhile fun a => Op.bytesLess a x := by
 have h := List.takeWhile_append_dropWhile (p := fun a => Op.bytesLess a x) (l := l)
 generalize (l.takeWhile fun a => Op.bytesLess a x) = A at h ⊢
 rw [← h, List.take_left']
 rfl
theorem aiA (l : List Str) (x : Str) : l.drop (l.takeWhile fun a => Op.bytesLess a x).length = l.dropWhile fun a => Op.bytesLess a x := by
 have h := List.takeWhile_append_dropWhile (p := fun a => Op.bytesLess a x) (l := l)
 generalize (l.takeWhile fun a => Op.bytesLess a x) = A at h ⊢
 generalize (l.dropWhile fun a => Op.bytesLess a x) = B at h ⊢
 rw [← h, List.drop_left']
 rfl
theorem apM (p0 out : List Str) (i : Int) (x : Str) (hx : idx p0 i = some x) (hl : out.length ≤ 10000) : Ev (fun n => ((qG n p0 (out, i) n 0).bind (LR.el (fun (s5 : Int) => (((cond (decide (s5 < (out.length : Int))) ((idx out s5).bind fun (x6 : Str) => ((idx p0 i).bind fun (x7 : Str) => some (x6 == x7))) (some false)) : Option Bool).bind fun (s6 : Bool) => (cond s6 (some out) ((app 16 out ([([] : Str)])).bind fun (x1 : List Str) => ((qz n s5 n (x1, (IntKind.wrap .i64 ((x1.length : Int) - 1)))).bind (LR.el (fun (s8 : List Str) => ((idx p0 i).bind fun (x2 : Str) => ((idx s8 s5).bind fun (x3 : Str) => some (upd s8 s5 x2)))) (fun _ => none))))))) (fun _ => none)))) (Ci out x) := by
 have h2 : Ev (fun n => qG n p0 (out, i) n 0) (.nx ((out.takeWhile fun a => Op.bytesLess a x).length : Int)) := ⟨out.length + 1, fun n hn => by
  have := afo p0 out i x hx (by omega) out [] n n rfl hn
  simpa using this⟩
 refine Ev.bind h2 ?_
 simp only [LR.el, hx, Option.bind_some]
 have hle : (out.takeWhile fun a => Op.bytesLess a x).length ≤ out.length := by
  have h := List.takeWhile_append_dropWhile (p := fun a => Op.bytesLess a x) (l := out)
  have := congrArg List.length h
  simp only [List.length_append] at this
  omega
 refine Ev.bind (a := ((out.dropWhile fun a => Op.bytesLess a x).head? == some x)) ?_ ?_
 ·refine Ev.of fun n => ?_
  rw [← aiA out x]
  by_cases hk : (out.takeWhile fun a => Op.bytesLess a x).length < out.length
  ·rw [decide_eq_true (by omega)]
   have hi : idx out ((out.takeWhile fun a => Op.bytesLess a x).length : Int) = some (out[(out.takeWhile fun a => Op.bytesLess a x).length]) := by
    unfold idx
    rw [if_pos (by omega)]
    simp
   rw [hi, List.drop_eq_getElem_cons hk]
   simp only [cond_true, Option.bind_some, List.head?_cons]
   rfl
  ·rw [decide_eq_false (by omega), List.drop_eq_nil_of_le (by omega)]
   rfl
 ·unfold Ci
  cases hc : ((out.dropWhile fun a => Op.bytesLess a x).head? == some x) with
  | true =>
   simp only [cond_true, List.takeWhile_append_dropWhile]
   exact Ev.ret _
  | false =>
   simp only [cond_false]
   rw [eD (by simp; omega) (by omega)]
   simp only [Option.bind_some]
   have h1 : Ev (fun n => qz n ((out.takeWhile fun a => Op.bytesLess a x).length : Int) n (out ++ [([] : Str)], IntKind.wrap .i64 (((out ++ [([] : Str)]).length : Int) - 1))) (.nx ((out ++ [([] : Str)]).take ((out.takeWhile fun a => Op.bytesLess a x).length + 1) ++ out.drop (out.takeWhile fun a => Op.bytesLess a x).length)) := ⟨out.length + 1, fun n hn => by
    have := acp out [] (out.takeWhile fun a => Op.bytesLess a x).length (by omega) (out.length - (out.takeWhile fun a => Op.bytesLess a x).length) n n (by omega) (by omega)
    have e : (out.takeWhile fun a => Op.bytesLess a x).length + (out.length - (out.takeWhile fun a => Op.bytesLess a x).length) = out.length := by omega
    rw [e, List.drop_length, List.append_nil, List.take_of_length_le (by simp)] at this
    have e2 : ((out ++ [([] : Str)]).length : Int) - 1 = (out.length : Int) := by simp
    rw [e2, wrap64 (by omega) (by omega)]
    exact this⟩
   refine Ev.bind h1 ?_
   have e3 : (out ++ [([] : Str)]).take ((out.takeWhile fun a => Op.bytesLess a x).length + 1) = (out.takeWhile fun a => Op.bytesLess a x) ++ [(out ++ [([] : Str)])[(out.takeWhile fun a => Op.bytesLess a x).length]'(by simp; omega)] := by
    rw [List.take_succ_eq_append_getElem (by simp; omega), List.take_append_of_le_length hle, aot]
   rw [e3, aiA, List.append_assoc]
   simp only [LR.el, List.singleton_append]
   rw [abn _ _ _ _ rfl]
   simp only [Option.bind_some]
   rw [ami _ _ _ _ _ rfl]
   exact Ev.ret _
def ES (l : List Str) : List Str := l.foldl Ci []
theorem aei (l : List Str) (x : Str) : (Ci l x).length ≤ l.length + 1 := by
 have h := congrArg List.length (List.takeWhile_append_dropWhile (p := fun a => Op.bytesLess a x) (l := l))
 simp only [List.length_append] at h
 unfold Ci
 cases ((l.dropWhile fun a => Op.bytesLess a x).head? == some x) <;> simp <;> omega
theorem ac0 {α σ ρ : Type} (f : σ → α → σ) : ∀ (l : List α) (i : Int) (s : σ), dZ (ρ := ρ) (fun _ x s => .nx (f s x)) (fun s => s) i l s = .nx (l.foldl f s)
 | [], _, _ => rfl
 | x :: l, i, s => ac0 f l (i + 1) (f s x)
theorem acD (l : List Str) (hl : l.length ≤ 5000) : Ev (fun n => CU n l) (ES l) := by
 unfold CU
 have h := vZ (ρ := List Str) l (fun n k i (s : List Str) => zH n l k (s, i))
  (fun n i _ out => (((qG n l (out, i) n 0).bind (LR.el (fun (s5 : Int) => (((cond (decide (s5 < (out.length : Int))) ((idx out s5).bind fun (x6 : Str) => ((idx l i).bind fun (x7 : Str) => some (x6 == x7))) (some false)) : Option Bool).bind fun (s6 : Bool) => (cond s6 (some out) ((app 16 out ([([] : Str)])).bind fun (x1 : List Str) => ((qz n s5 n (x1, (IntKind.wrap .i64 ((x1.length : Int) - 1)))).bind (LR.el (fun (s8 : List Str) => ((idx l i).bind fun (x2 : Str) => ((idx s8 s5).bind fun (x3 : Str) => some (upd s8 s5 x2)))) (fun _ => none))))))) (fun _ => none))) : Option (List Str)).bind fun s3 => some (.nx s3))
  (fun _ x s => .nx (Ci s x)) (fun s => s) (fun _ suf s => s.length + suf.length ≤ 5000)
  (fun n k s => by
   show cond (decide ((l.length : Int) < (l.length : Int))) _ _ = _
   rw [decide_eq_false (by omega)]
   rfl)
  (fun n k i x s hx hi => by
   show cond (decide (i < (l.length : Int))) _ _ = _
   rw [hi]
   simp only [cond_true]
   conv => rhs; rw [Option.bind_assoc]
   rfl)
  (fun i x suf s hx hI hidx => by
   simp only [List.length_cons] at hI
   refine ⟨Ev.bind (apM l s i x hidx (by omega)) (Ev.ret _), fun s' hs' => ?_⟩
   cases hs'
   have := aei s x
   omega) (s0 := []) (by simp; omega)
 rw [ac0] at h
 exact Ev.bind h (Ev.ret _)
theorem DL (l : List Str) : Asc (ES l) ∧ ∀ x, x ∈ ES l ↔ x ∈ l := by
 have key : ∀ (l s : List Str), Asc s → Asc (l.foldl Ci s) ∧ ∀ x, x ∈ l.foldl Ci s ↔ x ∈ s ∨ x ∈ l := by
  intro l
  induction l with
  | nil => intro s hs; exact ⟨hs, fun x => by simp⟩
  | cons a l ih =>
   intro s hs
   obtain ⟨h1, h2⟩ := ih (Ci s a) (anC hs a)
   refine ⟨h1, fun x => ?_⟩
   rw [List.foldl_cons, h2, anc, List.mem_cons]
   constructor
   ·rintro ((h | h) | h)
    ·exact .inl h
    ·exact .inr (.inl h)
    ·exact .inr (.inr h)
   ·rintro (h | h | h)
    ·exact .inl (.inl h)
    ·exact .inl (.inr h)
    ·exact .inr h
 obtain ⟨h1, h2⟩ := key l [] List.Pairwise.nil
 exact ⟨h1, fun x => by unfold ES; rw [h2]; simp⟩
end Abs
end Go.Proofs.YtiiaccpcoclklaaGreat
namespace Go.Proofs.YtiiaccpcoclklaaGreat
namespace Abs
open Go
theorem vT {s : Str} (h : ident s = true) : named s = true := by
 unfold named
 have : EM s = s := by
  unfold EM
  rw [if_neg]
  intro hl
  have hm := List.mem_of_getLast? hl
  have := Gg h 39 hm
  revert this
  decide
 rw [this]
 exact h
end Abs
end Go.Proofs.YtiiaccpcoclklaaGreat
namespace Go.Proofs.YtiiaccpcoclklaaGreat
namespace Abs
open Go
theorem Bf (p q : Tm) : ((fZ p q).op == 1) = ((p.op == 1) && (q.op == 1)) := by
 unfold fZ
 cases hp : p.op == 1 with
 | true => rfl
 | false =>
  cases hq : q.op == 1 with
  | true => simp only [cond_false, cond_true, hp, Bool.false_and]
  | false => rfl
theorem aep {op : Int} (h : (op == 1) = false) (p q : Tm) : ((sH op p q).op == 1) = (q.op == 1) := by
 unfold sH
 cases hq : q.op == 1 with
 | true => simp only [cond_true, hq]
 | false => exact h
theorem akp (nm : Str) (p q : Tm) : ((allT nm p q).op == 1) = (q.op == 1) := by
 unfold allT
 cases hq : q.op == 1 with
 | true => simp only [cond_true, hq]
 | false => rfl
theorem ahn (op : Int) (ks : List Tm) (d : Tm) : ((xJ op ks d).op == 1) = (!(Dn op) && d.op == 1) := by
 unfold xJ Dn
 cases op == 25 with
 | true => rw [cond_true, Bf]; cases d.op == 1 <;> rfl
 | false =>
  cases op == 26 with
  | true => rw [cond_false, cond_true, Bf]; cases (fZ d (eY 13 [EL 0, uh ks])).op == 1 <;> rfl
  | false =>
   cases op == 48 with
   | true => simp only [cond_false, Bool.true_or, cond_true, Bf]; cases d.op == 1 <;> rfl
   | false =>
    cases op == 49 with
    | true => simp only [cond_false, Bool.false_or, cond_true, Bf]; cases d.op == 1 <;> rfl
    | false =>
     cases op == 54 with
     | true => simp only [cond_false, Bool.or_self, cond_true, Bf]; cases d.op == 1 <;> rfl
     | false => rfl
def Na (sc : List Decl) : Prop := ∀ d ∈ sc, Good d.ty ∧ bR d.ty = true
theorem Na.g {sc : List Decl} (h : Na sc) : GoodS sc := fun d hd => (h d hd).1
end Abs
end Go.Proofs.YtiiaccpcoclklaaGreat
namespace Go.Proofs.YtiiaccpcoclklaaGreat
namespace Abs
open Go
theorem Q9 {p q : Tm} (hp : (p.op == 1) = true → p = nY) (hq : (q.op == 1) = true → q = nY) (h : ((fZ p q).op == 1) = true) : fZ p q = nY := by
 rw [Bf, Bool.and_eq_true] at h
 unfold fZ
 rw [h.1, cond_true]
 exact hq h.2
theorem ahq {op : Int} (ho : (op == 1) = false) {p q : Tm} (hq : (q.op == 1) = true → q = nY) (h : ((sH op p q).op == 1) = true) : sH op p q = nY := by
 rw [aep ho] at h
 unfold sH
 rw [h, cond_true]
 exact hq h
theorem apg {nm : Str} {p q : Tm} (hq : (q.op == 1) = true → q = nY) (h : ((allT nm p q).op == 1) = true) : allT nm p q = nY := by
 rw [akp] at h
 unfold allT
 rw [h, cond_true]
 exact hq h
theorem af0 : ∀ {l : List Tm} {s : Tm}, ((s.op == 1) = true → s = nY) → (∀ d ∈ l, (d.op == 1) = true → d = nY) → ((l.foldl fZ s).op == 1) = true → l.foldl fZ s = nY
 | [], s, hs, _, h => hs h
 | d :: l, s, hs, hd, h => af0 (s := fZ s d) (Q9 hs (hd d (by simp))) (fun e he => hd e (by simp [he])) h
theorem anl {op : Int} {ks : List Tm} {d : Tm} (h : ((xJ op ks d).op == 1) = true) : xJ op ks d = d := by
 have h' := h
 rw [ahn, Bool.and_eq_true] at h'
 have hp := h'.1
 unfold xJ
 simp only [Dn, Bool.not_eq_true', Bool.or_eq_false_iff] at hp
 rw [hp.1, hp.2.1, hp.2.2.1, hp.2.2.2.1, hp.2.2.2.2]
 rfl
theorem Rc : ∀ t : Tm, ∀ d : Int, Wf d t → ((dQ t).op == 1) = true → dQ t = nY := Tm.ind fun op nm m ty ks ih d hw h => by
 obtain ⟨hnode, _, hks, hkw⟩ := hw.node
 obtain ⟨hop, _, _, hlen, hbk⟩ := jL hnode
 have two : dO op = 2 → ∃ a b, ks = [a, b] := fun h => by
  have hl := (hlen (ks.map fun _ => bE) (by simp)).two h
  exact dR ks (by simpa using hl)
 have ihk : ∀ u ∈ ks, ((dQ u).op == 1) = true → dQ u = nY := fun u hu => ih u hu (d + 1) (hkw u hu)
 simp only [dQ, EP, sQ] at h ⊢
 cases h46 : (op == 4 || op == 6) with
 | true =>
  rw [h46, cond_true] at h
  rw [cond_true]
  have hk : dO op = 2 := by
   simp only [Bool.or_eq_true, beq_iff_eq] at h46
   rcases h46 with rfl | rfl <;> rfl
  obtain ⟨a, b, rfl⟩ := two hk
  exact Q9 (ihk a (by simp)) (ahq rfl (ihk b (by simp))) h
 | false =>
  rw [h46, cond_false] at h
  rw [cond_false]
  cases h5 : (op == 5) with
  | true =>
   rw [h5, cond_true] at h
   rw [cond_true]
   have hk : dO op = 2 := by
    simp only [beq_iff_eq] at h5
    subst h5; rfl
   obtain ⟨a, b, rfl⟩ := two hk
   exact Q9 (ihk a (by simp)) (ahq rfl (ihk b (by simp))) h
  | false =>
   rw [h5, cond_false] at h
   rw [cond_false]
   cases hb : bD op with
   | true =>
    rw [hb, cond_true] at h
    rw [cond_true]
    obtain ⟨a, b, rfl⟩ := hbk hb
    exact Q9 (ihk a (by simp)) (apg (ihk b (by simp))) h
   | false =>
    rw [hb, cond_false] at h
    rw [cond_false]
    have e := anl h
    rw [e] at h ⊢
    exact af0 (fun _ => rfl) (fun d hd => by
     obtain ⟨u, hu, rfl⟩ := List.mem_map.1 hd
     exact ihk u hu) h
section
variable {env : Env} {sc : List Decl}
end
end Abs
end Go.Proofs.YtiiaccpcoclklaaGreat
namespace Go.Proofs.YtiiaccpcoclklaaGreat
namespace Abs
open Go
mutual
def dw : Tm → List Str → List Str
 | .mk op nm _ _ ks, b => cond (op == 20) (cond (b.any fun x => x == nm) [] [nm]) (uG (bD op) nm 0 ks b)
def uG : Bool → Str → Int → List Tm → List Str → List Str
 | _, _, _, [], _ => []
 | bd, nm, i, t :: ts, b => dw t (cond (bd && i == 1) (b ++ [nm]) b) ++ uG bd nm (i + 1) ts b
end
mutual
theorem afm : ∀ (t : Tm) (d c : Int) (b : List Str), (mf t d c).1 = true → ((dw t b).length : Int) + c ≤ (mf t d c).2
 | .mk op nm m ty ks, d, c, b, h => by
  simp only [mf] at h ⊢
  cases hb : ((decide (c + 1 ≤ 2000) && decide (d ≤ 64)) && fD (.mk op nm m ty ks)) with
  | false => rw [hb] at h; cases h
  | true =>
   rw [hb] at h
   simp only [cond_true] at h ⊢
   have hk := acT ks (d + 1) (c + 1) (bD op) nm 0 b h
   have hle := (ZM ks (d + 1) (c + 1) h).1
   simp only [dw]
   cases op == 20 with
   | true =>
    cases b.any fun x => x == nm with
    | true => simp only [cond_true, List.length_nil]; omega
    | false => simp only [cond_true, cond_false, List.length_singleton]; omega
   | false => simp only [cond_false]; omega
theorem acT : ∀ (ts : List Tm) (d c : Int) (bd : Bool) (nm : Str) (i : Int) (b : List Str), (jy ts d c).1 = true → ((uG bd nm i ts b).length : Int) + c ≤ (jy ts d c).2
 | [], d, c, bd, nm, i, b, _ => by simp [uG, jy]
 | t :: ts, d, c, bd, nm, i, b, h => by
  simp only [jy] at h ⊢
  cases hb : (mf t d c).1 with
  | false => rw [hb] at h; cases h
  | true =>
   rw [hb] at h
   simp only [cond_true] at h ⊢
   have h1 := afm t d c (cond (bd && i == 1) (b ++ [nm]) b) hb
   have h2 := acT ts d _ bd nm (i + 1) b h
   simp only [uG, List.length_append, Int.natCast_add]
   omega
end
theorem Wf.GR {d : Int} {t : Tm} (h : Wf d t) (b : List Str) : (dw t b).length ≤ 2000 := by
 obtain ⟨c, h0, h⟩ := h
 have h1 := afm t d c b h
 have h2 := (Mc t d c h).2
 omega
theorem RF (n : Nat) (b : List Str) (nm : Str) (h : b.length ≤ 1000) : uN n b nm = some (b ++ [nm]) := by
 unfold uN
 rw [eD (by simp; omega) (by omega)]
 simp only [Option.bind_some, List.nil_append]
 rw [eD (by simp; omega) (by omega)]
 rfl
def stF (op : Int) (nm : Str) (b : List Str) (i : Int) (x : Tm) (s : List Str) : LR (List Str) (List Str) := .nx (s ++ dw x (cond (bD op && i == 1) (b ++ [nm]) b))
theorem ahk (op : Int) (nm : Str) (b : List Str) : ∀ (ts : List Tm) (i : Int) (acc : List Str), dZ (stF op nm b) (fun s => s) i ts acc = .nx (acc ++ uG (bD op) nm i ts b)
 | [], i, acc => by simp [dZ, uG]
 | t :: ts, i, acc => by
  simp only [dZ, stF, uG]
  have := ahk op nm b ts (i + 1) (acc ++ dw t (cond (bD op && i == 1) (b ++ [nm]) b))
  rw [this, List.append_assoc]
theorem Ro : ∀ t : Tm, ∀ (d : Int) (b : List Str), Wf d t → (b.length : Int) < d → Ev (fun n => p8 n t b) (dw t b) := Tm.ind fun op nm m ty ks ih d b hw hb => by
 obtain ⟨hnode, hd, hks, hkw⟩ := hw.node
 have hfl := hw.GR b
 refine Ev.succ ?_
 show Ev (fun n => zN n (fun p0 p1 => p8 n p0 p1) (.mk op nm m ty ks) b) _
 unfold zN
 simp only [Tm.op, Tm.name, dw] at hfl ⊢
 cases h20 : (op == 20) with
 | true =>
  simp only [cond_true]
  refine Ev.bind (qd nm b) ?_
  cases b.any fun x => x == nm
  ·exact Ev.ret _
  ·exact Ev.ret _
 | false =>
  rw [h20] at hfl
  simp only [cond_false] at hfl ⊢
  have hloop := vZ ks (fun n k i (s : List Str) => D5 n (fun p0 p1 => p8 n p0 p1) (.mk op nm m ty ks) b k (s, i))
   (fun n i x s => ((((((jh n op).bind fun (x6 : Bool) => (cond x6 (some (i == 1)) (some false))) : Option Bool).bind fun (s4 : Bool) => (cond s4 ((uN n b nm).bind fun (x5 : List Str) => some x5) (some b))) : Option (List Str)).bind fun (s3 : List Str) => ((p8 n x s3).bind fun (x3 : List Str) => ((app 16 s x3).bind fun (x4 : List Str) => some (.nx x4)))))
   (stF op nm b) (fun s => s) (fun i suf s => s.length + (uG (bD op) nm i suf b).length ≤ 2000)
   (fun n k s => by
    show cond (decide ((ks.length : Int) < (ks.length : Int))) _ _ = _
    rw [decide_eq_false (by omega)]
    rfl)
   (fun n k i x s hx hi => by
    show cond (decide (i < (ks.length : Int))) _ _ = _
    rw [hi]
    simp only [cond_true, Tm.op, Tm.name, Tm.kids, hx, Option.bind_some]
    conv => rhs; rw [Option.bind_assoc]
    congr 1
    funext s3
    conv => rhs; rw [Option.bind_assoc]
    congr 1
    funext x3
    conv => rhs; rw [Option.bind_assoc]
    rfl)
   (fun i x suf s hx hI hidx => by
    simp only [uG, List.length_append] at hI
    refine ⟨?_, fun s' hs' => ?_⟩
    ·refine Ev.bind (a := cond (bD op && i == 1) (b ++ [nm]) b) ?_ ?_
     ·simp only [qF, Option.bind_some]
      refine Ev.bind (a := bD op && i == 1) ?_ ?_
      ·cases bD op
       ·exact Ev.ret _
       ·exact Ev.ret _
      ·cases (bD op && i == 1) with
       | false => exact Ev.ret _
       | true =>
        simp only [cond_true]
        simp only [RF _ b nm (show b.length ≤ 1000 by omega)]
        exact Ev.ret _
     ·have hl : ((cond (bD op && i == 1) (b ++ [nm]) b).length : Int) < d + 1 := by
       cases (bD op && i == 1) with
       | false => simp only [cond_false]; omega
       | true => simp only [cond_true, List.length_append, List.length_singleton, Int.natCast_add, Int.natCast_one]; omega
      refine Ev.bind (ih x hx (d + 1) _ (hkw x hx) hl) ?_
      rw [eD (by omega) (by omega)]
      exact Ev.ret _
    ·cases hs'
     simp only [List.length_append]
     omega) (s0 := []) (by simpa using hfl)
  rw [ahk, List.nil_append] at hloop
  exact Ev.bind hloop (Ev.ret _)
def vW (t : Tm) : List Str := cond (cu t) (ES (dw t [])) []
theorem aad (t : Tm) : Ev (fun n => CX n t) (vW t) := by
 unfold CX vW
 refine Ev.bind (jA t) ?_
 cases h : cu t with
 | false => exact Ev.ret _
 | true =>
  simp only [Bool.not_true, cond_false, cond_true]
  refine Ev.bind (Ro t 1 [] (gG h) (by simp)) ?_
  have := (gG h).GR []
  exact Ev.bind (acD _ (by omega)) (Ev.ret _)
end Abs
end Go.Proofs.YtiiaccpcoclklaaGreat
namespace Go.Proofs.YtiiaccpcoclklaaGreat
namespace Abs
open Go
mutual
def rA (x : Str) : Tm → Bool
 | .mk op nm _ _ ks => cond (op == 20) (nm == x) (M7 x (bD op) nm 0 ks)
def M7 (x : Str) : Bool → Str → Int → List Tm → Bool
 | _, _, _, [] => false
 | bd, nm, i, t :: ts => (!((bd && i == 1) && nm == x) && rA x t) || M7 x bd nm (i + 1) ts
end
mutual
theorem aeO (x : Str) : ∀ (t : Tm) (b : List Str), x ∈ dw t b ↔ (rA x t = true ∧ x ∉ b)
 | .mk op nm m ty ks, b => by
  simp only [dw, rA]
  cases h20 : (op == 20) with
  | true =>
   simp only [cond_true, beq_iff_eq]
   cases hb : b.any fun y => y == nm with
   | true =>
    obtain ⟨y, hy, e⟩ := List.any_eq_true.1 hb
    have e' : y = nm := by simpa using e
    subst e'
    simp only [cond_true, List.not_mem_nil, false_iff, not_and]
    rintro rfl h
    exact h hy
   | false =>
    simp only [cond_false, List.mem_singleton]
    have hn : nm ∉ b := fun h => by
     have := (List.any_eq_false.1 hb) nm h
     simp at this
    constructor
    ·rintro rfl; exact ⟨rfl, hn⟩
    ·rintro ⟨e, _⟩; exact e.symm
  | false => simp only [cond_false]; exact XK x ks (bD op) nm 0 b
theorem XK (x : Str) : ∀ (ts : List Tm) (bd : Bool) (nm : Str) (i : Int) (b : List Str), x ∈ uG bd nm i ts b ↔ (M7 x bd nm i ts = true ∧ x ∉ b)
 | [], bd, nm, i, b => by simp [uG, M7]
 | t :: ts, bd, nm, i, b => by
  simp only [uG, M7, List.mem_append, aeO x t, XK x ts bd nm (i + 1) b]
  cases hb : (bd && i == 1) with
  | true =>
   simp only [cond_true, Bool.true_and, List.mem_append, List.mem_singleton, Bool.or_eq_true, Bool.and_eq_true, Bool.not_eq_true', beq_eq_false_iff_ne]
   constructor
   ·rintro (⟨h1, h2⟩ | ⟨h1, h2⟩)
    ·exact ⟨.inl ⟨fun e => h2 (.inr e.symm), h1⟩, fun h => h2 (.inl h)⟩
    ·exact ⟨.inr h1, h2⟩
   ·rintro ⟨⟨h1, h2⟩ | h1, h3⟩
    ·exact .inl ⟨h2, fun h => h.elim h3 fun e => h1 e.symm⟩
    ·exact .inr ⟨h1, h3⟩
  | false =>
   simp only [cond_false, Bool.false_and, Bool.not_false, Bool.true_and, Bool.or_eq_true]
   constructor
   ·rintro (⟨h1, h2⟩ | ⟨h1, h2⟩)
    ·exact ⟨.inl h1, h2⟩
    ·exact ⟨.inr h1, h2⟩
   ·rintro ⟨h1 | h1, h3⟩
    ·exact .inl ⟨h1, h3⟩
    ·exact .inr ⟨h1, h3⟩
end
theorem Jj {x : Str} {t : Tm} : x ∈ dw t [] ↔ rA x t = true := by rw [aeO]; simp
theorem XM (x : Str) (nm : Str) : ∀ (ks : List Tm) (i : Int), M7 x false nm i ks = true ↔ ∃ k ∈ ks, rA x k = true
 | [], i => by simp [M7]
 | t :: ts, i => by simp [M7, XM x nm ts (i + 1)]
theorem Nt {x : Str} {op : Int} (h20 : (op == 20) = false) (hb : bD op = false) {nm : Str} {m : Int} {ty : Ty} {ks : List Tm} : rA x (.mk op nm m ty ks) = true ↔ ∃ k ∈ ks, rA x k = true := by
 simp only [rA, h20, hb, cond_false]
 exact XM x nm ks 0
theorem Bg {op : Int} (hb : bD op = true) : (op == 20) = false ∧ (op == 29) = false := by
 simp only [bD, Bool.or_eq_true, beq_iff_eq] at hb
 rcases hb with rfl | rfl | rfl | rfl <;> exact ⟨rfl, rfl⟩
theorem zP {x : Str} {op : Int} (hb : bD op = true) {nm : Str} {m : Int} {ty : Ty} {p q : Tm} : rA x (.mk op nm m ty [p, q]) = true ↔ (rA x p = true ∨ (x ≠ nm ∧ rA x q = true)) := by
 simp only [rA, (Bg hb).1, cond_false, hb, M7, Bool.true_and, show ((0 : Int) == 1) = false from rfl, show ((0 : Int) + 1 == 1) = true from rfl, Bool.false_and, Bool.not_false, Bool.or_false, Bool.or_eq_true, Bool.and_eq_true, Bool.not_eq_true', beq_eq_false_iff_ne]
 exact or_congr Iff.rfl (and_congr ⟨fun h e => h e.symm, fun h e => h e.symm⟩ Iff.rfl)
theorem qo (env : Env) (d : Decl) (sc : List Decl) (s : Str) : jX env (d :: sc) s = if d.name == s then some d.ty else jX env sc s := by
 unfold jX
 rw [List.find?_cons]
 cases d.name == s <;> rfl
theorem WZ {env : Env} {sc sc' : List Decl} {nm nm' : Str} {p p' q q' : Tm} {i : Int} (h1 : bC env sc p = bC env sc' p') (h2 : ∀ e, bC env (⟨nm, e⟩ :: sc) q = bC env (⟨nm', e⟩ :: sc') q') : dA env sc true nm i [p, q] = dA env sc' true nm' i [p', q'] := by
 simp only [dA]
 rw [h1]
 cases bC env sc' p' with
 | er e p => rfl
 | ok ty =>
  simp only [iy, cond_true]
  cases bZ ty with
  | none => rfl
  | some e =>
   simp only [Option.map_some]
   rw [h2]
   cases bC env (⟨nm', e⟩ :: sc') q' <;> rfl
def oD (s : Str) : Tm := .mk 20 s 0 bE []
theorem afM (x s : Str) : rA x (oD s) = (s == x) := rfl
inductive SubT : (Str → Option Tm) → Tm → Tm → Prop where
 | rep {σ : Str → Option Tm} {nm : Str} {m : Int} {ty : Ty} {ks : List Tm} {u : Tm} (h : σ nm = some u) : SubT σ (.mk 20 nm m ty ks) u
 | keep {σ : Str → Option Tm} {nm : Str} {m : Int} {ty : Ty} {ks : List Tm} (h : σ nm = none) : SubT σ (.mk 20 nm m ty ks) (.mk 20 nm m ty ks)
 | node {σ : Str → Option Tm} {op : Int} {nm : Str} {m : Int} {ty : Ty} {ks : List Tm} (g : Tm → Tm) (h20 : (op == 20) = false) (hb : bD op = false) (h : ∀ k ∈ ks, SubT σ k (g k)) : SubT σ (.mk op nm m ty ks) (.mk op nm m ty (ks.map g))
 | bind {σ σ' : Str → Option Tm} {op : Int} {nm nm' : Str} {m : Int} {ty : Ty} {p q p' q' : Tm} (hb : bD op = true) (hp : SubT σ p p') (hq : SubT σ' q q') (hi : ident nm = true → ident nm' = true)
   (h1 : σ' nm = some (oD nm') ∨ (nm' = nm ∧ σ' nm = none)) (h2 : ∀ x, rA x q = true → x ≠ nm → σ' x = σ x ∧ match σ x with | some u => rA nm' u = false | none => x ≠ nm') : SubT σ (.mk op nm m ty [p, q]) (.mk op nm' m ty [p', q'])
theorem WB {s : Str} (h : named s = true) : fD (oD s) = true := by
 simp only [fD, oD, vX, oI, AJ, O4, Tm.op, Tm.name, Tm.n, Tm.ty, Tm.kids]
 simp [dO, h, Ay, bE, Ty.kind, Ty.name, Ty.kids]
theorem aej {s : Str} (h : named s = true) : Wf 1 (oD s) := ⟨0, by omega, by
 have := WB h
 unfold oD at this ⊢
 simp only [mf, this]
 rfl⟩
end Abs
end Go.Proofs.YtiiaccpcoclklaaGreat
namespace Go.Proofs.YtiiaccpcoclklaaGreat
namespace Abs
open Go
mutual
def jY : Tm → Int
 | .mk _ _ _ _ ks => 1 + vH ks
def vH : List Tm → Int
 | [] => 0
 | t :: ts => jY t + vH ts
end
mutual
def vV : Tm → Int
 | .mk _ _ _ _ ks => 1 + El ks
def El : List Tm → Int
 | [] => 0
 | t :: ts => max (vV t) (El ts)
end
mutual
def F6 : Tm → Bool
 | .mk op nm m ty ks => fD (.mk op nm m ty ks) && EA ks
def EA : List Tm → Bool
 | [] => true
 | t :: ts => F6 t && EA ts
end
mutual
theorem yt : ∀ t : Tm, 1 ≤ jY t ∧ 1 ≤ vV t
 | .mk _ _ _ _ ks => by have := Ac ks; simp only [jY, vV]; omega
theorem Ac : ∀ ts : List Tm, 0 ≤ vH ts ∧ 0 ≤ El ts
 | [] => by simp [vH, El]
 | t :: ts => by have := yt t; have := Ac ts; simp only [vH, El]; omega
end
mutual
theorem YJ : ∀ (t : Tm) (d c : Int), (mf t d c).1 = true → F6 t = true ∧ (mf t d c).2 = c + jY t ∧ c + jY t ≤ 2000 ∧ d + vV t ≤ 65
 | .mk op nm m ty ks, d, c, h => by
  simp only [mf] at h ⊢
  cases hb : ((decide (c + 1 ≤ 2000) && decide (d ≤ 64)) && fD (.mk op nm m ty ks)) with
  | false => rw [hb] at h; cases h
  | true =>
   rw [hb] at h
   simp only [cond_true] at h ⊢
   obtain ⟨g1, g2, g3, g4⟩ := ahb ks (d + 1) (c + 1) h
   simp only [Bool.and_eq_true, decide_eq_true_eq] at hb
   simp only [F6, jY, vV, Bool.and_eq_true]
   refine ⟨⟨hb.2, g1⟩, by omega, by omega, ?_⟩
   rcases g4 with g4 | rfl
   ·omega
   ·simp only [El]; omega
theorem ahb : ∀ (ts : List Tm) (d c : Int), (jy ts d c).1 = true → EA ts = true ∧ (jy ts d c).2 = c + vH ts ∧ (c ≤ 2000 → c + vH ts ≤ 2000) ∧ (d + El ts ≤ 65 ∨ ts = [])
 | [], d, c, _ => by simp [jy, vH, EA]
 | t :: ts, d, c, h => by
  simp only [jy] at h ⊢
  cases hb : (mf t d c).1 with
  | false => rw [hb] at h; cases h
  | true =>
   rw [hb] at h
   simp only [cond_true] at h ⊢
   obtain ⟨g1, g2, g3, g4⟩ := YJ t d c hb
   obtain ⟨q1, q2, q3, q4⟩ := ahb ts d _ h
   have := yt t
   simp only [EA, vH, El, Bool.and_eq_true]
   refine ⟨⟨g1, q1⟩, by omega, fun _ => by omega, .inl ?_⟩
   rcases q4 with q4 | rfl
   ·omega
   ·simp only [El]; omega
end
theorem vD {t : Tm} (h : cu t = true) : F6 t = true ∧ (mf t 1 0).2 = jY t ∧ jY t ≤ 2000 ∧ vV t ≤ 64 := by
 obtain ⟨g1, g2, g3, g4⟩ := YJ t 1 0 h
 exact ⟨g1, by omega, by omega, by omega⟩
theorem LP {b : List Str} {nm : Str} (h : nm ∉ b) : (b.any fun y => y == nm) = false := by
 rw [List.any_eq_false]
 intro y hy e
 have e' : y = nm := by simpa using e
 exact h (e' ▸ hy)
theorem Pe {b : List Str} {nm : Str} (h : nm ∈ b) : (b.any fun y => y == nm) = true := List.any_eq_true.2 ⟨nm, h, by simp⟩
end Abs
end Go.Proofs.YtiiaccpcoclklaaGreat
namespace Go.Proofs.YtiiaccpcoclklaaGreat
namespace Abs
open Go
theorem Rx {α : Type} {l : List α} {i : Int} {x : α} (h : idx l i = some x) : 0 ≤ i ∧ l[i.toNat]? = some x := by
 unfold idx at h
 split at h
 ·exact ⟨by assumption, h⟩
 ·cases h
end Abs
end Go.Proofs.YtiiaccpcoclklaaGreat
namespace Go.Proofs.YtiiaccpcoclklaaGreat
namespace Abs
open Go
def ix (s : Str) : List Str → Option Nat
 | [] => none
 | x :: l => cond (x == s) (some 0) ((ix s l).map (· + 1))
inductive Alk : List Str → List Str → Tm → Tm → Prop where
 | bnd {X Y : List Str} {nm nm' : Str} {m : Int} {ty : Ty} {ks : List Tm} {i : Nat} (h : ix nm X = some i) (h' : ix nm' Y = some i) (hn : named nm = named nm') : Alk X Y (.mk 20 nm m ty ks) (.mk 20 nm' m ty ks)
 | fre {X Y : List Str} {nm : Str} {m : Int} {ty : Ty} {ks : List Tm} (h : ix nm X = none) (h' : ix nm Y = none) : Alk X Y (.mk 20 nm m ty ks) (.mk 20 nm m ty ks)
 | node {X Y : List Str} {op : Int} {nm : Str} {m : Int} {ty : Ty} {ks ks' : List Tm} (h20 : (op == 20) = false) (hb : bD op = false) (hl : ks'.length = ks.length) (h : ∀ (i : Nat) a b, ks[i]? = some a → ks'[i]? = some b → Alk X Y a b) : Alk X Y (.mk op nm m ty ks) (.mk op nm m ty ks')
 | bind {X Y : List Str} {op : Int} {nm nm' : Str} {m : Int} {ty : Ty} {p q p' q' : Tm} (hb : bD op = true) (hi : ident nm = ident nm') (hp : Alk X Y p p') (hq : Alk (nm :: X) (nm' :: Y) q q') : Alk X Y (.mk op nm m ty [p, q]) (.mk op nm' m ty [p', q'])
theorem anB : ∀ t : Tm, ∀ d : Int, Wf d t → ∀ X : List Str, Alk X X t t := Tm.ind fun op nm m ty ks ih d hw X => by
 obtain ⟨hnode, _, _, hkw⟩ := hw.node
 obtain ⟨_, _, _, _, hbk⟩ := jL hnode
 cases h20 : (op == 20) with
 | true =>
  have e : op = 20 := by simpa using h20
  subst e
  cases hx : ix nm X with
  | none => exact .fre hx hx
  | some i => exact .bnd hx hx rfl
 | false =>
  cases hb : bD op with
  | false =>
   refine .node h20 hb rfl fun i a b h1 h2 => ?_
   rw [h1] at h2
   cases h2
   have hm := List.mem_of_getElem? h1
   exact ih a hm (d + 1) (hkw a hm) X
  | true =>
   obtain ⟨p, q, rfl⟩ := hbk hb
   exact .bind hb rfl (ih p (by simp) (d + 1) (hkw p (by simp)) X) (ih q (by simp) (d + 1) (hkw q (by simp)) _)
theorem ajO {P : Prop} (h : ((20 : Int) == 20) = false) : P := by cases h
theorem noB {P : Prop} (h : bD 20 = true) : P := by cases h
theorem ak4 {X Y : List Str} {a b : Tm} (h : Alk X Y a b) : ∀ (Z : List Str) (c : Tm), Alk Y Z b c → Alk X Z a c := by
 induction h with
 | bnd h h' hn =>
  intro Z c hc
  cases hc with
  | bnd g g' gn => rw [h'] at g; cases g; exact .bnd h g' (hn.trans gn)
  | fre g g' => rw [h'] at g; cases g
  | node h20 => exact ajO h20
  | bind hb => exact noB hb
 | fre h h' =>
  intro Z c hc
  cases hc with
  | bnd g g' gn => rw [h'] at g; cases g
  | fre g g' => exact .fre h g'
  | node h20 => exact ajO h20
  | bind hb => exact noB hb
 | @node X Y op nm m ty ks ks' h20 hb hl h ih =>
  intro Z c hc
  cases hc with
  | bnd g g' gn => exact ajO h20
  | fre g g' => exact ajO h20
  | node h20' hb' hl' h' =>
   refine .node h20 hb (hl'.trans hl) fun i a c g1 g2 => ?_
   cases g3 : ks'[i]? with
   | none =>
    have h1 := (List.getElem?_eq_some_iff.1 g1).1
    have h2 := List.getElem?_eq_none_iff.1 g3
    omega
   | some b => exact ih i a b g1 g3 Z c (h' i b c g3 g2)
  | bind hb' => rw [hb] at hb'; cases hb'
 | bind hb hi hp hq ihp ihq =>
  intro Z c hc
  cases hc with
  | bnd g g' gn => exact noB hb
  | fre g g' => exact noB hb
  | node h20' hb' => rw [hb] at hb'; cases hb'
  | bind hb' hi' hp' hq' => exact .bind hb (hi.trans hi') (ihp _ _ hp') (ihq _ _ hq')
def scp : List Str → List Ty → List Decl
 | x :: X, t :: T => ⟨x, t⟩ :: scp X T
 | _, _ => []
theorem FC (env : Env) (s : Str) : ∀ (X : List Str) (T : List Ty), X.length = T.length → jX env (scp X T) s = match ix s X with | some i => T[i]? | none => look env s
 | [], [], _ => rfl
 | x :: X, t :: T, h => by
  have := FC env s X T (by simpa using h)
  simp only [scp, qo, ix]
  cases x == s with
  | true => rfl
  | false =>
   simp only [cond_false, this]
   cases ix s X <;> rfl
theorem Ui {env : Env} {sc sc' : List Decl} : ∀ {ks ks' : List Tm}, ks'.length = ks.length → (∀ (i : Nat) a b, ks[i]? = some a → ks'[i]? = some b → bC env sc a = bC env sc' b) → ∀ (nm nm' : Str) (i : Int), dA env sc false nm i ks = dA env sc' false nm' i ks'
 | [], [], _, _, nm, nm', i => by simp only [dA]
 | k :: ks, k' :: ks', hl, h, nm, nm', i => by
  simp only [dA]
  rw [h 0 k k' rfl rfl]
  cases bC env sc' k' with
  | er e p => rfl
  | ok ty =>
   simp only [iy, cond_false]
   rw [Ui (by simpa using hl) (fun i a b h1 h2 => h (i + 1) a b (by simpa using h1) (by simpa using h2)) nm nm']
theorem aqB {env : Env} {X Y : List Str} {a b : Tm} (h : Alk X Y a b) : ∀ T : List Ty, X.length = T.length → Y.length = T.length → bC env (scp X T) a = bC env (scp Y T) b := by
 induction h with
 | bnd h h' hn =>
  intro T hX hY
  simp only [bC, show ((20 : Int) == 20) = true from rfl, cond_true]
  rw [FC env _ _ T hX, FC env _ _ T hY, h, h']
 | fre h h' =>
  intro T hX hY
  simp only [bC, show ((20 : Int) == 20) = true from rfl, cond_true]
  rw [FC env _ _ T hX, FC env _ _ T hY, h, h']
 | node h20 hb hl h ih =>
  intro T hX hY
  simp only [bC, h20, cond_false, hb]
  rw [Ui hl fun i a b h1 h2 => ih i a b h1 h2 T hX hY]
 | bind hb hi hp hq ihp ihq =>
  intro T hX hY
  simp only [bC, (Bg hb).1, cond_false, hb]
  rw [WZ (ihp T hX hY) fun e => ihq (e :: T) (by simpa using hX) (by simpa using hY)]
theorem acW : ∀ {ks ks' : List Tm}, ks'.length = ks.length → (∀ (i : Nat) a b, ks[i]? = some a → ks'[i]? = some b → ∀ d c, mf a d c = mf b d c) → ∀ d c, jy ks d c = jy ks' d c
 | [], [], _, _, d, c => rfl
 | k :: ks, k' :: ks', hl, h, d, c => by
  simp only [jy]
  rw [h 0 k k' rfl rfl d c, acW (by simpa using hl) fun i a b h1 h2 => h (i + 1) a b (by simpa using h1) (by simpa using h2)]
theorem ZK {X Y : List Str} {a b : Tm} (h : Alk X Y a b) : ∀ d c : Int, mf a d c = mf b d c := by
 induction h with
 | @bnd X Y nm nm' m ty ks i h h' hn =>
  intro d c
  have : fD (.mk 20 nm m ty ks) = fD (.mk 20 nm' m ty ks) := by
   simp only [fD, vX, oI, AJ, O4, Tm.op, Tm.name, Tm.n, Tm.ty, Tm.kids, show ((20 : Int) == 20) = true from rfl, cond_true, hn]
   rfl
  simp only [mf, this]
 | fre h h' => intro d c; rfl
 | @node X Y op nm m ty ks ks' h20 hb hl h ih =>
  intro d c
  have : fD (.mk op nm m ty ks) = fD (.mk op nm m ty ks') := by
   simp only [fD, vX, oI, AJ, O4, Tm.op, Tm.name, Tm.n, Tm.ty, Tm.kids, hl]
   rfl
  simp only [mf, this]
  rw [acW hl ih]
 | @bind X Y op nm nm' m ty p q p' q' hb hi hp hq ihp ihq =>
  intro d c
  have : fD (.mk op nm m ty [p, q]) = fD (.mk op nm' m ty [p', q']) := by
   simp only [fD, vX, oI, AJ, O4, Tm.op, Tm.name, Tm.n, Tm.ty, Tm.kids, (Bg hb).1, hb, cond_true, cond_false, hi, List.length_cons, List.length_nil]
   rfl
  simp only [mf, this, jy, ihp, ihq]
theorem OL {X Y : List Str} {a b : Tm} (h : Alk X Y a b) : cu a = cu b := by
 unfold cu
 rw [ZK h]
theorem aly {X Y : List Str} {a b : Tm} (h : Alk X Y a b) {d : Int} (hw : Wf d a) : Wf d b := by
 obtain ⟨c, h0, h1⟩ := hw
 exact ⟨c, h0, by rw [← ZK h]; exact h1⟩
theorem arx {t : Ty} (h : Ay t = true) : t = bE := by
 obtain ⟨k, nm, ks⟩ := t
 simp only [Ay, Ty.kind, Ty.name, Ty.kids, Bool.and_eq_true, beq_iff_eq] at h
 obtain ⟨rfl, rfl, h⟩ := h
 have : ks = [] := List.length_eq_zero_iff.1 (by omega)
 subst this
 rfl
theorem akQ {nm : Str} {m : Int} {ty : Ty} {ks : List Tm} (h : fD (.mk 20 nm m ty ks) = true) : Tm.mk 20 nm m ty ks = oD nm ∧ named nm = true := by
 have hk := (jL h).2.1 rfl
 subst hk
 simp only [fD, oI, AJ, O4, Tm.op, Tm.name, Tm.n, Tm.ty, show ((20 : Int) == 20) = true from rfl, show ((20 : Int) == 19) = false from rfl, show ((20 : Int) == 29) = false from rfl, cond_true, cond_false, Bool.and_eq_true, beq_iff_eq] at h
 obtain ⟨_, h1, rfl, h3⟩ := h
 rw [arx h3]
 exact ⟨rfl, h1⟩
theorem apL {σ : Str → Option Tm} {t t' : Tm} (h : SubT σ t t') : ∀ (X Y : List Str) (d : Int), Wf d t → (∀ x, rA x t = true → match σ x with | some u => ∃ s i, u = oD s ∧ named s = true ∧ ix x X = some i ∧ ix s Y = some i | none => ix x X = ix x Y) → Alk X Y t t' := by
 induction h with
 | @rep σ nm m ty ks u h =>
  intro X Y d hw hx
  obtain ⟨e, hn⟩ := akQ hw.node.1
  have := hx nm (by simp [rA])
  rw [h] at this
  obtain ⟨s, i, rfl, h1, h2, h3⟩ := this
  rw [e]
  exact .bnd h2 h3 (hn.trans h1.symm)
 | @keep σ nm m ty ks h =>
  intro X Y d hw hx
  have := hx nm (by simp [rA])
  rw [h] at this
  simp only at this
  cases hi : ix nm X with
  | none => exact .fre hi (this ▸ hi)
  | some i => exact .bnd hi (this ▸ hi) rfl
 | @node σ op nm m ty ks g h20 hb h ih =>
  intro X Y d hw hx
  obtain ⟨_, _, _, hkw⟩ := hw.node
  refine .node h20 hb (List.length_map ..) fun i a b h1 h2 => ?_
  rw [List.getElem?_map, h1] at h2
  cases h2
  have hm := List.mem_of_getElem? h1
  exact ih a hm X Y (d + 1) (hkw a hm) fun x hx' => hx x ((Nt h20 hb).2 ⟨a, hm, hx'⟩)
 | @bind σ σ' op nm nm' m ty p q p' q' hb hp hq hi h1 h2 ihp ihq =>
  intro X Y d hw hx
  obtain ⟨hnode, _, _, hkw⟩ := hw.node
  have hnm : ident nm = true := by
   simp only [fD, oI, Tm.op, Tm.name, hb, (Bg hb).1, cond_false, cond_true, Bool.and_eq_true] at hnode
   exact hnode.2.1
  refine .bind hb (by rw [hnm, hi hnm]) (ihp X Y (d + 1) (hkw p (by simp)) fun x hx' => hx x ((zP hb).2 (.inl hx'))) (ihq _ _ (d + 1) (hkw q (by simp)) fun x hx' => ?_)
  by_cases e : x = nm
  ·subst e
   rcases h1 with h1 | ⟨rfl, h1⟩
   ·rw [h1]
    exact ⟨nm', 0, rfl, vT (hi hnm), by simp [ix], by simp [ix]⟩
   ·rw [h1]
    simp [ix]
  ·obtain ⟨g1, g2⟩ := h2 x hx' e
   have hxx := hx x ((zP hb).2 (.inr ⟨e, hx'⟩))
   rw [g1]
   have e1 : (nm == x) = false := by simpa using fun h => e h.symm
   cases hσ : σ x with
   | some u =>
    rw [hσ] at hxx g2
    obtain ⟨s, i, rfl, q1, q2, q3⟩ := hxx
    simp only [afM] at g2
    have e2 : (nm' == s) = false := by
     cases hs : nm' == s with
     | false => rfl
     | true =>
      have : nm' = s := by simpa using hs
      subst this
      simp at g2
    exact ⟨s, i + 1, rfl, q1, by simp [ix, e1, q2], by simp [ix, e2, q3]⟩
   | none =>
    rw [hσ] at hxx g2
    simp only at hxx g2 ⊢
    have e2 : (nm' == x) = false := by simpa using fun h => g2 h.symm
    simp [ix, e1, e2, hxx]
section
variable {X Y : List Str}
theorem Alk.op {a b : Tm} (h : Alk X Y a b) : b.op = a.op := by cases h <;> rfl
def Ch (X Y : List Str) (ks ks' : List Tm) : Prop := ks'.length = ks.length ∧ ∀ (i : Nat) a b, ks[i]? = some a → ks'[i]? = some b → Alk X Y a b
theorem Ch.nil : Ch X Y [] [] := ⟨rfl, fun i a b h => by simp at h⟩
theorem Ch.cons {a b : Tm} {l l' : List Tm} (h : Alk X Y a b) (hl : Ch X Y l l') : Ch X Y (a :: l) (b :: l') := ⟨by simp [hl.1], fun i x y h1 h2 => by
 cases i with
 | zero => simp at h1 h2; subst h1 h2; exact h
 | succ i => exact hl.2 i x y (by simpa using h1) (by simpa using h2)⟩
theorem Ch.inv {a : Tm} {l l' : List Tm} (h : Ch X Y (a :: l) l') : ∃ b m, l' = b :: m ∧ Alk X Y a b ∧ Ch X Y l m := by
 obtain ⟨h1, h2⟩ := h
 cases l' with
 | nil => simp at h1
 | cons b m => exact ⟨b, m, rfl, h2 0 a b rfl rfl, by simpa using h1, fun i x y q1 q2 => h2 (i + 1) x y (by simpa using q1) (by simpa using q2)⟩
theorem Vq {op : Int} (h20 : (op == 20) = false) (hb : bD op = false) {l l' : List Tm} (h : Ch X Y l l') : Alk X Y (eY op l) (eY op l') := .node h20 hb h.1 h.2
theorem Rp : Alk X Y nY nY := Vq rfl rfl .nil
theorem La (m : Int) : Alk X Y (EL m) (EL m) := .node rfl rfl rfl fun i a b h => by simp at h
theorem ahv : Alk X Y yH yH := .node rfl rfl rfl fun i a b h => by simp at h
theorem Da {op : Int} (h20 : (op == 20) = false) (hb : bD op = false) {p p' q q' : Tm} (hp : Alk X Y p p') (hq : Alk X Y q q') : Alk X Y (eY op [p, q]) (eY op [p', q']) := Vq h20 hb (.cons hp (.cons hq .nil))
theorem abo {op : Int} (h20 : (op == 20) = false) (hb : bD op = false) {p p' : Tm} (hp : Alk X Y p p') : Alk X Y (eY op [p]) (eY op [p']) := Vq h20 hb (.cons hp .nil)
theorem Ar {p p' q q' : Tm} (hp : Alk X Y p p') (hq : Alk X Y q q') : Alk X Y (fZ p q) (fZ p' q') := by
 unfold fZ
 rw [hp.op, hq.op]
 cases p.op == 1 with
 | true => exact hq
 | false =>
  cases q.op == 1 with
  | true => exact hp
  | false => exact Da rfl rfl hp hq
theorem ag0 {op : Int} (h20 : (op == 20) = false) (hb : bD op = false) {p p' q q' : Tm} (hp : Alk X Y p p') (hq : Alk X Y q q') : Alk X Y (sH op p q) (sH op p' q') := by
 unfold sH
 rw [hq.op]
 cases q.op == 1 with
 | true => exact hq
 | false => exact Da h20 hb hp hq
theorem aoR {nm nm' : Str} (hi : ident nm = ident nm') {p p' q q' : Tm} (hp : Alk X Y p p') (hq : Alk (nm :: X) (nm' :: Y) q q') (ht : (q.op == 1) = true → q = nY) (ht' : (q'.op == 1) = true → q' = nY) : Alk X Y (allT nm p q) (allT nm' p' q') := by
 unfold allT
 have e := hq.op
 cases h : q.op == 1 with
 | true =>
  have h' : (q'.op == 1) = true := by rw [e]; exact h
  rw [h', ht h, ht' h']
  exact Rp
 | false =>
  rw [e, h]
  exact .bind rfl hi hp hq
theorem afN : ∀ {l l' : List Tm} {s s' : Tm}, Ch X Y l l' → Alk X Y s s' → Alk X Y (l.foldl fZ s) (l'.foldl fZ s')
 | [], l', s, s', h, hs => by
  have : l' = [] := List.length_eq_zero_iff.1 (by simpa using h.1)
  subst this
  exact hs
 | a :: l, l', s, s', h, hs => by
  obtain ⟨b, m, rfl, h1, h2⟩ := h.inv
  show Alk X Y (l.foldl fZ (fZ s a)) (m.foldl fZ (fZ s' b))
  exact afN h2 (Ar hs h1)
theorem GU {l l' : List Tm} (h : Ch X Y l l') : Alk X Y (uh l) (uh l') := by
 cases l with
 | nil =>
  have : l' = [] := List.length_eq_zero_iff.1 (by simpa using h.1)
  subst this
  exact ahv
 | cons a l => obtain ⟨b, m, rfl, h1, h2⟩ := h.inv; exact h1
theorem aaS {l l' : List Tm} (h : Ch X Y l l') : Alk X Y (wJ l) (wJ l') := by
 cases l with
 | nil =>
  have : l' = [] := List.length_eq_zero_iff.1 (by simpa using h.1)
  subst this
  exact ahv
 | cons a l => obtain ⟨b, m, rfl, h1, h2⟩ := h.inv; exact GU h2
theorem ams {op : Int} {ks ks' : List Tm} {D D' : Tm} (h : Ch X Y ks ks') (hD : Alk X Y D D') : Alk X Y (xJ op ks D) (xJ op ks' D') := by
 unfold xJ
 have k1 := GU h
 have k2 := aaS h
 cases op == 25 with
 | true => exact Ar hD (Da rfl rfl k2 (La 0))
 | false =>
  cases op == 26 with
  | true => exact Ar (Ar hD (Da rfl rfl (La 0) k1)) (Da rfl rfl (La 0) k2)
  | false =>
   cases op == 48 || op == 49 with
   | true => exact Ar hD (Da rfl rfl (La 0) (abo rfl rfl k1))
   | false =>
    cases op == 54 with
    | true => exact Ar hD (Da rfl rfl (abo rfl rfl (Da rfl rfl k1 (abo rfl rfl k2))) (La 1))
    | false => exact hD
end
theorem ao5 {X Y : List Str} {a b : Tm} (h : Alk X Y a b) : ∀ d : Int, Wf d a → Alk X Y (dQ a) (dQ b) := by
 induction h with
 | bnd h h' hn => intro d hw; rw [(akQ hw.node.1).1]; have := (jL hw.node.1).2.1 rfl; subst this; exact Rp
 | fre h h' => intro d hw; have := (jL hw.node.1).2.1 rfl; subst this; exact Rp
 | @node X Y op nm m ty ks ks' h20 hb hl h ih =>
  intro d hw
  obtain ⟨hnode, _, _, hkw⟩ := hw.node
  have hk : Ch X Y ks ks' := ⟨hl, h⟩
  have hd : Ch X Y (ks.map dQ) (ks'.map dQ) := ⟨by simp [hl], fun i x y h1 h2 => by
   rw [List.getElem?_map] at h1 h2
   obtain ⟨a, g1, rfl⟩ := Option.map_eq_some_iff.1 h1
   obtain ⟨b, g2, rfl⟩ := Option.map_eq_some_iff.1 h2
   exact ih i a b g1 g2 (d + 1) (hkw a (List.mem_of_getElem? g1))⟩
  simp only [dQ, sQ, EP, hb, cond_false]
  cases op == 4 || op == 6 with
  | true => exact Ar (GU hd) (ag0 rfl rfl (GU hk) (aaS hd))
  | false =>
   cases op == 5 with
   | true => exact Ar (GU hd) (ag0 rfl rfl (GU hk) (aaS hd))
   | false => exact ams hk (afN hd Rp)
 | @bind X Y op nm nm' m ty p q p' q' hb hi hp hq ihp ihq =>
  intro d hw
  have hw' : Wf d (.mk op nm' m ty [p', q']) := aly (.bind hb hi hp hq) hw
  obtain ⟨_, _, _, hkw⟩ := hw.node
  obtain ⟨_, _, _, hkw'⟩ := hw'.node
  have e46 : (op == 4 || op == 6) = false := by
   simp only [bD, Bool.or_eq_true, beq_iff_eq] at hb
   rcases hb with rfl | rfl | rfl | rfl <;> rfl
  have e5 : (op == 5) = false := by
   simp only [bD, Bool.or_eq_true, beq_iff_eq] at hb
   rcases hb with rfl | rfl | rfl | rfl <;> rfl
  simp only [dQ, sQ, EP, hb, e46, e5, cond_false, cond_true]
  exact Ar (ihp (d + 1) (hkw p (by simp))) (aoR hi hp (ihq (d + 1) (hkw q (by simp))) (Rc q (d + 1) (hkw q (by simp))) (Rc q' (d + 1) (hkw' q' (by simp))))
end Abs
end Go.Proofs.YtiiaccpcoclklaaGreat
namespace Go.Proofs.YtiiaccpcoclklaaGreat
namespace Abs
open Go
abbrev qU := S_api_Binding
def jl (l : List qU) (s : Str) : Option Tm := (l.find? fun x => x.name == s).map (·.term)
def ano (o : Option Tm) : Tm × Bool := match o with | some u => (u, true) | none => (yH, false)
theorem EJ (x : qU) (l : List qU) (s : Str) : jl (x :: l) s = cond (x.name == s) (some x.term) (jl l s) := by
 unfold jl
 rw [List.find?_cons]
 cases x.name == s <;> rfl
theorem Vv (l : List qU) (x : qU) (s : Str) : jl (l ++ [x]) s = (match jl l s with | some u => some u | none => cond (x.name == s) (some x.term) none) := by
 induction l with
 | nil => simp only [List.nil_append, EJ]; rfl
 | cons y l ih =>
  simp only [List.cons_append, EJ, ih]
  cases y.name == s <;> rfl
theorem KY {l : List qU} {s : Str} {u : Tm} (h : jl l s = some u) : ∃ x ∈ l, x.name = s ∧ x.term = u := by
 unfold jl at h
 obtain ⟨x, h1, h2⟩ := Option.map_eq_some_iff.1 h
 exact ⟨x, List.mem_of_find?_eq_some h1, by simpa using List.find?_some h1, h2⟩
theorem DY (l : List qU) (s : Str) : Ev (fun n => oJ n l s) (ano (jl l s)) := by
 have hrun : ∀ (l : List qU) (i : Int), dZ (τ := Unit) (fun _ (x : qU) (_ : Unit) => cond (x.name == s) (LR.rt (x.term, true)) (.nx ())) (fun _ => ()) i l () = (match jl l s with | some u => LR.rt (u, true) | none => .nx ()) := by
  intro l
  induction l with
  | nil => intro i; rfl
  | cons x l ih =>
   intro i
   simp only [dZ, EJ]
   cases x.name == s with
   | true => rfl
   | false => exact ih (i + 1)
 unfold oJ
 have h := vZ l (fun n k i (_ : Unit) => uR n l s k i) (fun n i x _ => cond (x.name == s) (some (.rt (x.term, true))) (some (.nx ()))) (fun _ x _ => cond (x.name == s) (.rt (x.term, true)) (.nx ())) (fun _ => ()) (fun _ _ _ => True)
  (fun n k u => by
   show cond (decide ((l.length : Int) < (l.length : Int))) _ _ = _
   rw [decide_eq_false (by omega)]
   rfl)
  (fun n k i x u hx hi => by
   show cond (decide (i < (l.length : Int))) _ _ = _
   rw [hi]
   simp only [cond_true, hx, Option.bind_some]
   cases x.name == s <;> rfl)
  (fun i x suf u hx _ _ => ⟨by cases x.name == s <;> exact Ev.ret _, fun _ _ => trivial⟩) (s0 := ()) trivial
 rw [hrun] at h
 refine Ev.bind h ?_
 cases jl l s <;> exact Ev.ret _
def dec (n : Nat) : Str := if n < 10 then [UInt8.ofNat (48 + n)] else dec (n / 10) ++ [UInt8.ofNat (48 + n % 10)]
theorem dec_lt {n : Nat} (h : n < 10) : dec n = [UInt8.ofNat (48 + n)] := by unfold dec; rw [if_pos h]
theorem IC {n : Nat} (h : ¬n < 10) : dec n = dec (n / 10) ++ [UInt8.ofNat (48 + n % 10)] := by
 conv => lhs; unfold dec
 rw [if_neg h]
theorem Qp : ∀ (m n : Nat), n < 10 ^ (m + 1) → (dec n).length ≤ m + 1
 | 0, n, h => by rw [dec_lt (by simpa using h)]; simp
 | m + 1, n, h => by
  by_cases hn : n < 10
  ·rw [dec_lt hn]; simp
  ·rw [IC hn]
   have := Qp m (n / 10) (by rw [Nat.pow_succ] at h; omega)
   simp; omega
theorem Lv : ∀ (m n : Nat), 10 ^ m ≤ n → m + 1 ≤ (dec n).length
 | 0, n, h => by
  by_cases hn : n < 10
  ·rw [dec_lt hn]; simp
  ·rw [IC hn]; simp
 | m + 1, n, h => by
  have h10 : 10 ≤ 10 ^ (m + 1) := by rw [Nat.pow_succ]; have := Nat.pow_pos (n := m) (show 0 < 10 by omega); omega
  rw [IC (by omega)]
  have := Lv m (n / 10) (by rw [Nat.pow_succ] at h; omega)
  simp; omega
theorem aqj {n : Nat} (h1 : 100000 ≤ n) (h2 : n ≤ 999999) : (dec n).length = 6 := by
 have := Qp 5 n (by omega)
 have := Lv 5 n (by omega)
 omega
theorem acC {a b : Nat} (ha : a < 10) (hb : b < 10) (h : UInt8.ofNat (48 + a) = UInt8.ofNat (48 + b)) : a = b := by
 have := congrArg UInt8.toNat h
 simp only [UInt8.toNat_ofNat'] at this
 omega
theorem apn (a : Nat) : ∀ b : Nat, dec a = dec b → a = b := by
 induction a using Nat.strongRecOn with
 | ind a ih =>
  intro b h
  by_cases ha : a < 10
  ·by_cases hb : b < 10
   ·rw [dec_lt ha, dec_lt hb] at h
    exact acC ha hb (by simpa using h)
   ·have := congrArg List.length h
    have h2 := Lv 1 b (by omega)
    rw [dec_lt ha] at this
    simp at this
    omega
  ·by_cases hb : b < 10
   ·have := congrArg List.length h
    have h2 := Lv 1 a (by omega)
    rw [dec_lt hb] at this
    simp at this
    omega
   ·rw [IC ha, IC hb] at h
    have := List.append_inj' h rfl
    have e1 := ih (a / 10) (by omega) (b / 10) this.1
    have e2 := acC (Nat.mod_lt a (by omega)) (Nat.mod_lt b (by omega)) (by simpa using this.2)
    omega
theorem ahd (n : Nat) : ∀ c ∈ dec n, A8 (c.toNat : Int) = true := by
 induction n using Nat.strongRecOn with
 | ind n ih =>
  intro c hc
  have key : ∀ d : Nat, d < 10 → A8 ((UInt8.ofNat (48 + d)).toNat : Int) = true := by
   intro d hd
   simp only [UInt8.toNat_ofNat', A8]
   simp
   omega
  by_cases hn : n < 10
  ·rw [dec_lt hn] at hc
   simp only [List.mem_singleton] at hc
   subst hc
   exact key n hn
  ·rw [IC hn] at hc
   rcases List.mem_append.1 hc with hc | hc
   ·exact ih (n / 10) (by omega) c hc
   ·simp only [List.mem_singleton] at hc
    subst hc
    exact key _ (Nat.mod_lt n (by omega))
theorem afi {d : Int} (h0 : 0 ≤ d) (h1 : d < 10) : List.map toByte [IntKind.wrap .u8 (IntKind.wrap .i64 (48 + d))] = [UInt8.ofNat (48 + d.toNat)] := by
 have : d = 0 ∨ d = 1 ∨ d = 2 ∨ d = 3 ∨ d = 4 ∨ d = 5 ∨ d = 6 ∨ d = 7 ∨ d = 8 ∨ d = 9 := by omega
 rcases this with rfl | rfl | rfl | rfl | rfl | rfl | rfl | rfl | rfl | rfl <;> rfl
theorem aiu {a b : Str} (h : a.length + b.length ≤ 1000000) : OY a b = some (a ++ b) := by
 unfold OY
 rw [if_pos (by omega)]
theorem ajQ (k : Nat) : k ≤ 1000000 → Ev (fun n => ql n (k : Int)) (dec k) := by
 induction k using Nat.strongRecOn with
 | ind k ih =>
  intro hk
  refine Ev.succ ?_
  show Ev (fun n => vB n (fun p0 => ql n p0) (k : Int)) _
  unfold vB
  rw [show ((k : Int) == -9223372036854775808) = false by apply beq_false_of_ne; omega, decide_eq_false (show ¬(k : Int) < 0 by omega)]
  simp only [cond_false]
  by_cases h : k < 10
  ·rw [decide_eq_true (show (k : Int) < 10 by omega), dec_lt h]
   simp only [cond_true]
   rw [afi (by omega) (by omega)]
   exact Ev.ret _
  ·rw [decide_eq_false (show ¬(k : Int) < 10 by omega), IC h]
   simp only [cond_false]
   have e1 : Int.tdiv (k : Int) 10 = ((k / 10 : Nat) : Int) := by
    rw [Int.tdiv_eq_ediv_of_nonneg (by omega)]; omega
   have e2 : Int.tmod (k : Int) 10 = ((k % 10 : Nat) : Int) := by
    rw [Int.tmod_eq_emod_of_nonneg (by omega)]; omega
   rw [e1, e2, wrap64 (by omega) (by omega)]
   refine Ev.bind (ih (k / 10) (by omega) (by omega)) ?_
   rw [afi (by omega) (by omega)]
   have := Qp 6 (k / 10) (by omega)
   rw [aiu (by simp; omega)]
   simp only [Int.toNat_natCast]
   exact Ev.ret _
end Abs
end Go.Proofs.YtiiaccpcoclklaaGreat
namespace Go.Proofs.YtiiaccpcoclklaaGreat
namespace Abs
open Go
theorem al0 {α : Type} [BEq α] [LawfulBEq α] (f : Nat → α) : ∀ (n a : Nat) (l : List α), l.length < n → (∀ i j, a ≤ i → i < a + n → a ≤ j → j < a + n → f i = f j → i = j) → ∃ k, a ≤ k ∧ k < a + n ∧ f k ∉ l
 | 0, a, l, h, _ => by omega
 | n + 1, a, l, h, hf => by
  by_cases hm : f (a + n) ∈ l
  ·have hl : (l.erase (f (a + n))).length < n := by
    rw [List.length_erase_of_mem hm]
    have : 0 < l.length := List.length_pos_of_mem hm
    omega
   obtain ⟨k, h1, h2, h3⟩ := al0 f n a (l.erase (f (a + n))) hl fun i j g1 g2 g3 g4 => hf i j g1 (by omega) g3 (by omega)
   refine ⟨k, h1, by omega, fun hk => h3 ?_⟩
   refine (List.mem_erase_of_ne ?_).2 hk
   intro e
   have := hf k (a + n) h1 (by omega) (by omega) (by omega) e
   omega
  ·exact ⟨a + n, by omega, by omega, hm⟩
theorem aq7 {s : Str} {c : UInt8} (h : s.getLast? = some c) (hc : A8 (c.toNat : Int) = true) : OV s = false := by
 cases hk : OV s with
 | false => rfl
 | true =>
  unfold OV at hk
  obtain ⟨x, hx, e⟩ := List.any_eq_true.1 hk
  have e' : x = s := by simpa using e
  subst e'
  have key : ∀ x ∈ kws, (match x.getLast? with | some c => A8 (c.toNat : Int) | none => false) = false := by decide
  have := key x hx
  rw [h] at this
  simp only at this
  rw [this] at hc
  cases hc
def BS (s : Str) (k : Nat) : Str := (if 16 < s.length + (dec k).length then s.take (16 - (dec k).length) else s) ++ dec k
theorem amg (k : Nat) : dec k ≠ [] := by
 intro h
 have := Lv 0 k
 by_cases hk : k < 10
 ·rw [dec_lt hk] at h; cases h
 ·have := Lv 1 k (by omega)
  rw [h] at this
  simp at this
theorem Zj {nm : Str} (hi : ident nm = true) {j k : Nat} (hj : 1 ≤ j) (hj' : j ≤ nm.length) (hk : k ≤ 999999) : ident (BS (nm.take j) k) = true := by
 cases nm with
 | nil => cases hi
 | cons c cs =>
  have hw := Gg hi
  simp only [ident, Bool.and_eq_true, decide_eq_true_eq, List.all_eq_true] at hi
  have hd := Qp 5 k (by omega)
  obtain ⟨j, rfl⟩ : ∃ i, j = i + 1 := ⟨j - 1, by omega⟩
  -- the part ahead of the number
  obtain ⟨i, hi'⟩ : ∃ i, (if 16 < ((c :: cs).take (j + 1)).length + (dec k).length then ((c :: cs).take (j + 1)).take (16 - (dec k).length) else (c :: cs).take (j + 1)) = c :: cs.take i ∧ (cs.take i).length + 1 + (dec k).length ≤ 16 := by
   by_cases h : 16 < ((c :: cs).take (j + 1)).length + (dec k).length
   ·rw [if_pos h]
    refine ⟨min (15 - (dec k).length) j, ?_, ?_⟩
    ·rw [List.take_take, show min (16 - (dec k).length) (j + 1) = min (15 - (dec k).length) j + 1 by omega]
     rfl
    ·rw [List.length_take]; omega
   ·rw [if_neg h]
    refine ⟨j, rfl, ?_⟩
    simp only [List.take_succ_cons, List.length_cons] at h
    omega
  unfold BS
  rw [hi'.1]
  have hlast : (c :: cs.take i ++ dec k).getLast? = (dec k).getLast? := by
   rw [List.getLast?_append]
   cases hq : (dec k).getLast? with
   | none => exact absurd (List.getLast?_eq_none_iff.1 hq) (amg k)
   | some c => rfl
  obtain ⟨l, hl⟩ : ∃ l, (dec k).getLast? = some l := by
   cases hq : (dec k).getLast? with
   | none => exact absurd (List.getLast?_eq_none_iff.1 hq) (amg k)
   | some c => exact ⟨c, rfl⟩
  have hkw : OV (c :: (cs.take i ++ dec k)) = false := aq7 (hlast.trans hl) (ahd k l (List.mem_of_getLast? hl))
  simp only [List.cons_append, ident, Bool.and_eq_true, decide_eq_true_eq, List.all_eq_true, hkw, Bool.not_false]
  refine ⟨by rw [List.length_append]; omega, hi.2.1, trivial, fun x hx => ?_⟩
  rcases List.mem_append.1 hx with hx | hx
  ·exact hw x (by simp [List.mem_of_mem_take hx])
  ·have := ahd k x hx
   simp [xE, this]
theorem anp {nm : Str} (hi : ident nm = true) : ∃ j, 1 ≤ j ∧ j ≤ nm.length ∧ Ev (fun n => y9 n n nm) (.nx (nm.take j)) := by
 have hfirst : ∃ c cs, nm = c :: cs ∧ A8 (c.toNat : Int) = false := by
  cases nm with
  | nil => cases hi
  | cons c cs =>
   refine ⟨c, cs, rfl, ?_⟩
   simp only [ident, Bool.and_eq_true] at hi
   have := hi.2.1
   simp only [FX, Bool.or_eq_true, Bool.and_eq_true, decide_eq_true_eq] at this
   simp only [A8, Bool.and_eq_false_iff, decide_eq_false_iff_not]
   omega
 have hlen : nm.length ≤ 16 := by
  cases nm with
  | nil => cases hi
  | cons c cs => simp only [ident, Bool.and_eq_true, decide_eq_true_eq] at hi; simp; omega
 have key : ∀ j, 1 ≤ j → j ≤ nm.length → ∃ i, 1 ≤ i ∧ i ≤ nm.length ∧ ∀ n k, j ≤ k → y9 n k (nm.take j) = some (.nx (nm.take i)) := by
  intro j
  induction j with
  | zero => intro h; omega
  | succ j ih =>
   intro h1 h2
   have hl : ((nm.take (j + 1)).length : Int) - 1 = (j : Int) := by rw [List.length_take]; omega
   have hg : nm[j]? = some (nm[j]'(by omega)) := List.getElem?_eq_getElem (by omega)
   generalize hc : nm[j]'(by omega) = c at hg
   have hs : xG (nm.take (j + 1)) (j : Int) = some (c.toNat : Int) := by
    rw [Cj]
    unfold idx
    rw [if_pos (by omega)]
    simp only [Int.toNat_natCast]
    rw [List.getElem?_take_of_lt (by omega), hg]
    rfl
   cases hd : A8 (c.toNat : Int) with
   | false =>
    refine ⟨j + 1, h1, h2, fun n k hk => ?_⟩
    cases k with
    | zero => omega
    | succ k =>
     show ((xG (nm.take (j + 1)) (((nm.take (j + 1)).length : Int) - 1)).bind _) = _
     rw [hl, hs]
     simp only [Option.bind_some, J3, hd, cond_false]
   | true =>
    have hj : 1 ≤ j := by
     cases j with
     | zero =>
      obtain ⟨c', cs, rfl, hd'⟩ := hfirst
      simp at hg
      subst hg
      rw [hd] at hd'
      cases hd'
     | succ j => omega
    obtain ⟨i, g1, g2, g3⟩ := ih hj (by omega)
    refine ⟨i, g1, g2, fun n k hk => ?_⟩
    cases k with
    | zero => omega
    | succ k =>
     show ((xG (nm.take (j + 1)) (((nm.take (j + 1)).length : Int) - 1)).bind _) = _
     rw [hl, hs]
     simp only [Option.bind_some, J3, hd, cond_true]
     rw [Co _ _ (by rw [List.length_take]; omega), List.take_take, show min j (j + 1) = j by omega]
     exact g3 n k (by omega)
 have h1 : 1 ≤ nm.length := by
  obtain ⟨c, cs, rfl, _⟩ := hfirst
  simp
 obtain ⟨i, g1, g2, g3⟩ := key nm.length h1 (Nat.le_refl _)
 rw [List.take_length] at g3
 exact ⟨i, g1, g2, ⟨nm.length, fun n hn => g3 n n hn⟩⟩
theorem Yk {nm : Str} (hi : ident nm = true) : Ev (fun n => xu n nm) false := by
 unfold xu
 refine Ev.bind (a := false) ?_ (Ev.ret _)
 cases h1 : decide (1 < (nm.length : Int)) with
 | false => exact Ev.ret _
 | true =>
  simp only [cond_true]
  simp only [decide_eq_true_eq] at h1
  obtain ⟨t, c, rfl⟩ : ∃ t c, nm = t ++ [c] := by
   rcases List.eq_nil_or_concat nm with rfl | ⟨t, c, rfl⟩
   ·simp at h1
   ·exact ⟨t, c, by simp⟩
  have h2 : xG (t ++ [c]) (((t ++ [c] : Str).length : Int) - 1) = some (c.toNat : Int) := by
   rw [show (((t ++ [c] : Str).length : Int) - 1) = (t.length : Int) by simp, Cj, show (t ++ [c] : Str) = t ++ c :: [] from rfl, zC]; rfl
  rw [h2]
  simp only [Option.bind_some]
  have hw := Gg hi c (by simp)
  have : ((c.toNat : Int) == 39) = false := by
   apply beq_false_of_ne
   intro e
   rw [e] at hw
   cases hw
  rw [this]
  exact Ev.ret _
theorem aek {nm : Str} (hi : ident nm = true) {used : List Str} (hu : used.length ≤ 800000) : ∃ r, Ev (fun n => xR n nm used) r ∧ r ∉ used ∧ ident r = true := by
 have hn := vT hi
 by_cases hm : nm ∈ used
 ·obtain ⟨j, j1, j2, hj⟩ := anp hi
  have hlen : nm.length ≤ 16 := by
   cases nm with
   | nil => cases hi
   | cons c cs => simp only [ident, Bool.and_eq_true, decide_eq_true_eq] at hi; simp; omega
  have hs : (nm.take j).length ≤ 16 := by rw [List.length_take]; omega
  obtain ⟨k0, q1, q2, q3⟩ : ∃ k, 100000 ≤ k ∧ k < 100000 + 900000 ∧ BS (nm.take j) k ∉ used := al0 (BS (nm.take j)) 900000 100000 used (by omega) fun a b g1 g2 g3 g4 e => by
   unfold BS at e
   rw [aqj g1 (by omega), aqj g3 (by omega)] at e
   exact apn a b (List.append_cancel_left e)
  have key : ∀ i, i < k0 → ∃ r, (r ∉ used ∧ ident r = true) ∧ ∃ N, ∀ n, N ≤ n → ∀ f, i + 1 ≤ f → sV n used (nm.take j) f ((k0 - i : Nat) : Int) = some (.rt r) := by
   have step : ∀ k : Nat, 1 ≤ k → k ≤ 999999 → ∃ N, ∀ n, N ≤ n → ∀ f, sV n used (nm.take j) (f + 1) (k : Int) = cond (!(used.any fun y => y == BS (nm.take j) k)) (some (.rt (BS (nm.take j) k))) (sV n used (nm.take j) f ((k + 1 : Nat) : Int)) := by
    intro k h1 h2
    obtain ⟨N1, e1⟩ := ajQ k (by omega)
    obtain ⟨N2, e2⟩ := qd (BS (nm.take j) k) used
    refine ⟨max N1 N2, fun n hn f => ?_⟩
    have e1' : ql n (k : Int) = some (dec k) := e1 n (by omega)
    have e2' : mq n (BS (nm.take j) k) used = _ := e2 n (by omega)
    have hd := Qp 5 k (by omega)
    show ((ql n (k : Int)).bind _) = _
    rw [e1']
    simp only [Option.bind_some]
    rw [wrap64 (by omega) (by omega), wrap64 (by omega) (by omega), wrap64 (by omega) (by omega)]
    have e6 : ((cond (decide (16 < (((nm.take j).length : Int) + ((dec k).length : Int)))) ((mZ (nm.take j) 0 (16 - ((dec k).length : Int))).bind fun (x6 : Str) => some x6) (some (nm.take j))) : Option Str) = some (if 16 < (nm.take j).length + (dec k).length then (nm.take j).take (16 - (dec k).length) else nm.take j) := by
     by_cases h : 16 < (nm.take j).length + (dec k).length
     ·rw [if_pos h, decide_eq_true (by omega)]
      simp only [cond_true]
      rw [show (16 - ((dec k).length : Int)) = ((16 - (dec k).length : Nat) : Int) by omega, Co _ _ (by omega)]
      rfl
     ·rw [if_neg h, decide_eq_false (by omega)]
      rfl
    rw [e6]
    simp only [Option.bind_some]
    have hc : (if 16 < (nm.take j).length + (dec k).length then (nm.take j).take (16 - (dec k).length) else nm.take j).length ≤ 16 := by
     split
     ·rw [List.length_take]; omega
     ·exact hs
    rw [aiu (by omega)]
    simp only [Option.bind_some]
    show ((mq n (BS (nm.take j) k) used).bind _) = _
    rw [e2']
    rfl
   intro i
   induction i with
   | zero =>
    intro _
    obtain ⟨N, h⟩ := step k0 (by omega) (by omega)
    refine ⟨BS (nm.take j) k0, ⟨q3, Zj hi j1 j2 (by omega)⟩, N, fun n hn f hf => ?_⟩
    obtain ⟨f, rfl⟩ : ∃ g, f = g + 1 := ⟨f - 1, by omega⟩
    rw [Nat.sub_zero, h n hn f, LP q3]
    rfl
   | succ i ih =>
    intro hik
    obtain ⟨r, hr, N1, h1⟩ := ih (by omega)
    obtain ⟨N2, h2⟩ := step (k0 - (i + 1)) (by omega) (by omega)
    by_cases hin : BS (nm.take j) (k0 - (i + 1)) ∈ used
    ·refine ⟨r, hr, max N1 N2, fun n hn f hf => ?_⟩
     obtain ⟨f, rfl⟩ : ∃ g, f = g + 1 := ⟨f - 1, by omega⟩
     rw [h2 n (by omega) f, Pe hin]
     simp only [Bool.not_true, cond_false]
     rw [show k0 - (i + 1) + 1 = k0 - i by omega]
     exact h1 n (by omega) f (by omega)
    ·refine ⟨_, ⟨hin, Zj hi j1 j2 (by omega)⟩, N2, fun n hn f hf => ?_⟩
     obtain ⟨f, rfl⟩ : ∃ g, f = g + 1 := ⟨f - 1, by omega⟩
     rw [h2 n hn f, LP hin]
     rfl
  obtain ⟨r, hr, N, h⟩ := key (k0 - 1) (by omega)
  rw [show k0 - (k0 - 1) = 1 by omega] at h
  refine ⟨r, ?_, hr⟩
  have hL0 : Ev (fun n => sV n used (nm.take j) n 1) (.rt r) := ⟨max N (k0 + 1), fun n hn => h n (by omega) n (by omega)⟩
  unfold xR
  refine Ev.bind (a := nm) ?_ ?_
  ·refine Ev.bind (Bj nm) ?_
   rw [hn]
   exact Ev.ret _
  ·refine Ev.bind (qd nm used) ?_
   rw [Pe hm]
   simp only [Bool.not_true, cond_false]
   refine Ev.bind (a := nm) ?_ ?_
   ·refine Ev.bind (Yk hi) (Ev.ret _)
   ·refine Ev.bind hj ?_
    simp only [LR.el]
    exact Ev.bind hL0 (Ev.ret _)
 ·refine ⟨nm, ?_, hm, hi⟩
  unfold xR
  refine Ev.bind (a := nm) ?_ ?_
  ·refine Ev.bind (Bj nm) ?_
   rw [hn]
   exact Ev.ret _
  ·refine Ev.bind (qd nm used) ?_
   rw [LP hm]
   exact Ev.ret _
end Abs
end Go.Proofs.YtiiaccpcoclklaaGreat
namespace Go.Proofs.YtiiaccpcoclklaaGreat
namespace Abs
open Go
def BQ (nm : Str) (names : List Str) (acc : List qU) (x : qU) : List qU := cond ((jl acc x.name).isSome || (x.name == nm || !(names.any fun y => y == x.name))) acc (acc ++ [x])
def Dk (nm : Str) (names : List Str) : List qU → List qU → List qU
 | [], acc => acc
 | x :: l, acc => Dk nm names l (BQ nm names acc x)
theorem alm (nm : Str) (names : List Str) (s : Str) : ∀ (l acc : List qU), jl (Dk nm names l acc) s = (match jl acc s with | some u => some u | none => if s ≠ nm ∧ s ∈ names then jl l s else none)
 | [], acc => by
  simp only [Dk]
  cases jl acc s with
  | some u => rfl
  | none => simp [jl]
 | x :: l, acc => by
  simp only [Dk]
  rw [alm nm names s l]
  unfold BQ
  cases hc : ((jl acc x.name).isSome || (x.name == nm || !(names.any fun y => y == x.name))) with
  | true =>
   simp only [cond_true, EJ]
   cases ha : jl acc s with
   | some u => rfl
   | none =>
    simp only
    cases hx : x.name == s with
    | false => rfl
    | true =>
     have e : x.name = s := by simpa using hx
     subst e
     rw [ha] at hc
     simp only [Option.isSome_none, Bool.false_or, Bool.or_eq_true, beq_iff_eq, Bool.not_eq_true'] at hc
     have : ¬(x.name ≠ nm ∧ x.name ∈ names) := by
      rintro ⟨h1, h2⟩
      rcases hc with hc | hc
      ·exact h1 hc
      ·rw [Pe h2] at hc; cases hc
     rw [if_neg this, if_neg this]
  | false =>
   simp only [cond_false, Vv, EJ]
   cases ha : jl acc s with
   | some u => rfl
   | none =>
    simp only
    cases hx : x.name == s with
    | false => rfl
    | true =>
     have e : x.name = s := by simpa using hx
     subst e
     simp only [Bool.or_eq_false_iff, Bool.not_eq_false', beq_eq_false_iff_ne] at hc
     obtain ⟨y, hy, hy'⟩ := List.any_eq_true.1 hc.2.2
     have e' : y = x.name := by simpa using hy'
     have hp : x.name ≠ nm ∧ x.name ∈ names := ⟨hc.2.1, e' ▸ hy⟩
     rw [if_pos hp, if_pos hp]
     rfl
theorem air (nm : Str) (names : List Str) : ∀ (l acc : List qU), ∀ x ∈ Dk nm names l acc, x ∈ acc ∨ x ∈ l
 | [], acc, x, h => .inl h
 | y :: l, acc, x, h => by
  rcases air nm names l _ x h with h | h
  ·unfold BQ at h
   cases hc : ((jl acc y.name).isSome || (y.name == nm || !(names.any fun z => z == y.name))) with
   | true => rw [hc] at h; exact .inl h
   | false =>
    rw [hc] at h
    simp only [cond_false, List.mem_append, List.mem_singleton] at h
    rcases h with h | h
    ·exact .inl h
    ·exact .inr (by simp [h])
  ·exact .inr (by simp [h])
theorem aix (nm : Str) (names : List Str) : ∀ (l acc : List qU), (Dk nm names l acc).length ≤ acc.length + l.length
 | [], acc => by simp [Dk]
 | y :: l, acc => by
  simp only [Dk]
  have := aix nm names l (BQ nm names acc y)
  have h : (BQ nm names acc y).length ≤ acc.length + 1 := by
   unfold BQ
   cases ((jl acc y.name).isSome || (y.name == nm || !(names.any fun z => z == y.name))) <;> simp
  simp; omega
theorem afc (l : List qU) (hl : l.length ≤ 1000) (nm : Str) {body : Tm} {d : Int} (hw : Wf d body) (hd : 0 < d) : Ev (fun n => zw n l nm body) (Dk nm (dw body []) l []) := by
 unfold zw
 refine Ev.bind (Ro body d [] hw (by simpa using hd)) ?_
 have hrun : ∀ (ts : List qU) (i : Int) (acc : List qU), dZ (τ := List qU) (ρ := List qU) (fun _ (x : qU) s => LR.nx (BQ nm (dw body []) s x)) (fun s => s) i ts acc = .nx (Dk nm (dw body []) ts acc) := by
  intro ts
  induction ts with
  | nil => intro i acc; rfl
  | cons t ts ih => intro i acc; simp only [dZ, Dk]; exact ih _ _
 have h := vZ l (fun n k i (s : List qU) => vg n l nm (dw body []) k (s, i))
  (fun n i x s => ((oJ n s x.name).bind fun (x3 : Tm × Bool) => (((cond x3.2 (some true) (cond (x.name == nm) (some true) ((mq n x.name (dw body [])).bind fun (x8 : Bool) => some (!x8)))) : Option Bool).bind fun (s4 : Bool) => (cond s4 (some s) ((app 120 s ([x])).bind fun (x5 : List qU) => some x5)))).bind fun s3 => some (.nx s3))
  (fun _ x s => .nx (BQ nm (dw body []) s x)) (fun s => s) (fun _ suf s => s.length + suf.length ≤ 1000)
  (fun n k s => by
   show cond (decide ((l.length : Int) < (l.length : Int))) _ _ = _
   rw [decide_eq_false (by omega)]
   rfl)
  (fun n k i x s hx hi => by
   show cond (decide (i < (l.length : Int))) _ _ = _
   rw [hi]
   simp only [cond_true, hx, Option.bind_some]
   conv => rhs; rw [Option.bind_assoc]
   rfl)
  (fun i x suf s hx hI _ => by
   refine ⟨?_, fun s' hs' => ?_⟩
   ·refine Ev.bind (a := BQ nm (dw body []) s x) ?_ (Ev.ret _)
    refine Ev.bind (DY s x.name) ?_
    refine Ev.bind (a := ((jl s x.name).isSome || (x.name == nm || !((dw body []).any fun y => y == x.name)))) ?_ ?_
    ·cases jl s x.name with
     | some u => exact Ev.ret _
     | none =>
      simp only [ano, cond_false, Option.isSome_none, Bool.false_or]
      cases x.name == nm with
      | true => exact Ev.ret _
      | false => exact Ev.bind (qd _ _) (Ev.ret _)
    ·unfold BQ
     cases ((jl s x.name).isSome || (x.name == nm || !((dw body []).any fun y => y == x.name))) with
     | true => exact Ev.ret _
     | false =>
      simp only [cond_false]
      simp only [List.length_cons] at hI
      rw [eD (by simp; omega) (by omega)]
      exact Ev.ret _
   ·cases hs'
    have : (BQ nm (dw body []) s x).length ≤ s.length + 1 := by
     unfold BQ
     cases ((jl s x.name).isSome || (x.name == nm || !((dw body []).any fun y => y == x.name))) <;> simp
    simp only [List.length_cons] at hI
    omega) (s0 := []) (by simpa using hl)
 rw [hrun] at h
 exact Ev.bind h (Ev.ret _)
def vk (l : List qU) : List Str := l.flatMap fun x => dw x.term []
theorem am6 {rec_ : Nat → Tm → List qU → Option Tm} (l : List qU) (hl : l.length ≤ 200) (hv : ∀ x ∈ l, cu x.term = true) : Ev (fun n => yV n (rec_ n) l n ([], 0)) (.nx (vk l)) := by
 have hrun : ∀ (ts : List qU) (i : Int) (acc : List Str), dZ (τ := List Str) (ρ := Tm) (fun _ (x : qU) s => LR.nx (s ++ dw x.term [])) (fun s => s) i ts acc = .nx (acc ++ vk ts) := by
  intro ts
  induction ts with
  | nil => intro i acc; simp [dZ, vk]
  | cons t ts ih => intro i acc; simp only [dZ]; rw [ih]; simp [vk]
 have h := vZ l (fun n k i (s : List Str) => yV n (rec_ n) l k (s, i)) (fun n i x s => ((p8 n x.term ([] : List Str)).bind fun (x20 : List Str) => ((app 16 s x20).bind fun (x21 : List Str) => some (.nx x21))))
  (fun _ x s => .nx (s ++ dw x.term [])) (fun s => s) (fun _ suf s => s.length + 2000 * suf.length ≤ 400000)
  (fun n k s => by
   show cond (decide ((l.length : Int) < (l.length : Int))) _ _ = _
   rw [decide_eq_false (by omega)]
   rfl)
  (fun n k i x s hx hi => by
   show cond (decide (i < (l.length : Int))) _ _ = _
   rw [hi]
   simp only [cond_true, hx, Option.bind_some]
   rw [Option.bind_assoc]
   congr 1
   funext x20
   rw [Option.bind_assoc]
   rfl)
  (fun i x suf s hx hI _ => by
   have hw := gG (hv x hx)
   have hf := hw.GR []
   simp only [List.length_cons] at hI
   refine ⟨?_, fun s' hs' => ?_⟩
   ·refine Ev.bind (Ro x.term 1 [] hw (by simp)) ?_
    rw [eD (by omega) (by omega)]
    exact Ev.ret _
   ·cases hs'
    rw [List.length_append]
    omega) (s0 := []) (by simp; omega)
 rw [hrun, List.nil_append] at h
 exact h
theorem akl (l : List qU) (hv : ∀ x ∈ l, cu x.term = true) : (vk l).length ≤ 2000 * l.length := by
 induction l with
 | nil => simp [vk]
 | cons x l ih =>
  have h1 := (gG (hv x (by simp))).GR []
  have h2 := ih fun y hy => hv y (by simp [hy])
  simp only [vk, List.flatMap_cons, List.length_append, List.length_cons] at h2 ⊢
  omega
theorem pick {P : Tm → Tm → Prop} {ks : List Tm} (h : ∀ k ∈ ks, ∃ k', P k k') : ∃ g : Tm → Tm, ∀ k ∈ ks, P k (g k) := by
 classical
 exact ⟨fun k => if hk : k ∈ ks then Classical.choose (h k hk) else k, fun k hk => by
  simp only [hk, dif_pos]
  exact Classical.choose_spec (h k hk)⟩
theorem aeB : ∀ t : Tm, ∀ (d : Int) (l : List qU), Wf d t → 0 < d → (l.length : Int) ≤ d + 10 → (∀ x ∈ l, cu x.term = true) → ∃ t', Ev (fun n => mg n t l) t' ∧ SubT (jl l) t t' := Tm.ind fun op nm m ty ks ih d l hw hd0 hl hv => by
 obtain ⟨hnode, hd, hks, hkw⟩ := hw.node
 obtain ⟨_, h20k, _, _, hbk⟩ := jL hnode
 have go : ∀ {t' : Tm}, Ev (fun n => pq n (fun p0 p1 => mg n p0 p1) (.mk op nm m ty ks) l) t' → Ev (fun n => mg n (.mk op nm m ty ks) l) t' := fun h => Ev.succ h
 cases h20 : (op == 20) with
 | true =>
  have e : op = 20 := by simpa using h20
  subst e
  cases hu : jl l nm with
  | some u =>
   refine ⟨u, go ?_, .rep hu⟩
   unfold pq
   simp only [Tm.op, Tm.name, show ((20 : Int) == 20) = true from rfl, cond_true]
   refine Ev.bind (DY l nm) ?_
   rw [hu]
   obtain ⟨x, hx, _, hxu⟩ := KY hu
   exact Ev.bind (LG u 1 (gG (hxu ▸ hv x hx))) (Ev.ret _)
  | none =>
   refine ⟨_, go ?_, .keep hu⟩
   unfold pq
   simp only [Tm.op, Tm.name, show ((20 : Int) == 20) = true from rfl, cond_true]
   refine Ev.bind (DY l nm) ?_
   rw [hu]
   exact Ev.bind (LG _ d hw) (Ev.ret _)
 | false =>
  cases hb : bD op with
  | false =>
   obtain ⟨g, hg⟩ := pick (P := fun k k' => Ev (fun n => mg n k l) k' ∧ SubT (jl l) k k') (ks := ks) fun k hk => ih k hk (d + 1) l (hkw k hk) (by omega) (by omega) hv
   refine ⟨.mk op nm m ty (ks.map g), go ?_, .node g h20 hb fun k hk => (hg k hk).2⟩
   unfold pq
   simp only [Tm.op, Tm.name, Tm.n, Tm.ty, h20, cond_false]
   refine Ev.bind (mQ ty (GK hnode)) ?_
   simp only [qF, Option.bind_some, hb, Bool.not_false, cond_true]
   have hrun : ∀ (ts : List Tm) (i : Int) (acc : List Tm), dZ (τ := List Tm) (ρ := Tm) (fun _ (x : Tm) s => LR.nx (s ++ [g x])) (fun s => s) i ts acc = .nx (acc ++ ts.map g) := by
    intro ts
    induction ts with
    | nil => intro i acc; simp [dZ]
    | cons t ts ih => intro i acc; simp only [dZ]; rw [ih]; simp
   have h := vZ ks (fun n k i (s : List Tm) => BI n (fun p0 p1 => mg n p0 p1) (.mk op nm m ty ks) l k (i, s)) (fun n i x s => ((mg n x l).bind fun (x7 : Tm) => ((app 104 s ([x7])).bind fun (x8 : List Tm) => some (.nx x8))))
    (fun _ x s => .nx (s ++ [g x])) (fun s => s) (fun _ suf s => s.length + suf.length ≤ 2000)
    (fun n k s => by
     show cond (decide ((ks.length : Int) < (ks.length : Int))) _ _ = _
     rw [decide_eq_false (by omega)]
     rfl)
    (fun n k i x s hx hi => by
     show cond (decide (i < (ks.length : Int))) _ _ = _
     rw [hi]
     simp only [cond_true, Tm.kids, hx, Option.bind_some]
     rw [Option.bind_assoc]
     congr 1
     funext x20
     rw [Option.bind_assoc]
     rfl)
    (fun i x suf s hx hI _ => by
     simp only [List.length_cons] at hI
     refine ⟨?_, fun s' hs' => ?_⟩
     ·refine Ev.bind (hg x hx).1 ?_
      rw [eD (by simp; omega) (by omega)]
      exact Ev.ret _
     ·cases hs'
      rw [List.length_append, List.length_singleton]
      omega) (s0 := []) (by simpa using hks)
   rw [hrun, List.nil_append] at h
   exact Ev.bind h (Ev.ret _)
  | true =>
   obtain ⟨p, q, rfl⟩ := hbk hb
   have hnm : ident nm = true := by
    have hnode := hnode
    simp only [fD, oI, Tm.op, Tm.name, hb, h20, cond_false, cond_true, Bool.and_eq_true] at hnode
    exact hnode.2.1
   obtain ⟨p', ep, sp⟩ := ih p (by simp) (d + 1) l (hkw p (by simp)) (by omega) (by omega) hv
   have hwq := hkw q (by simp)
   have hR := afc l (by omega) nm hwq (by omega)
   have hRlen := aix nm (dw q []) l []
   have hRv : ∀ x ∈ Dk nm (dw q []) l [], cu x.term = true := fun x hx => by
    rcases air nm _ l [] x hx with h | h
    ·cases h
    ·exact hv x h
   have hRlk : ∀ s, jl (Dk nm (dw q []) l []) s = if s ≠ nm ∧ s ∈ dw q [] then jl l s else none := fun s => alm nm _ s l []
   generalize Dk nm (dw q []) l [] = R at hR hRlen hRv hRlk
   simp only [List.length_nil, Nat.zero_add] at hRlen
   have hN := am6 (rec_ := fun n p0 p1 => mg n p0 p1) R (by omega) hRv
   have hNlen := akl R hRv
   have hin : ∀ {x : Str} {u : Tm}, jl R x = some u → ∀ y, rA y u = true → y ∈ vk R := fun h y hy => by
    obtain ⟨b, hb, _, e⟩ := KY h
    exact List.mem_flatMap.2 ⟨b, hb, by rw [e]; exact Jj.2 hy⟩
   have hRx : ∀ x, rA x q = true → x ≠ nm → jl R x = jl l x := fun x hx hne => by
    rw [hRlk, if_pos ⟨hne, Jj.2 hx⟩]
   have hRn : jl R nm = none := by rw [hRlk, if_neg (by simp)]
   have ffq := hwq.GR []
   -- the name and the bindings of the body
   obtain ⟨nm', R', e5, hR'len, hR'v, hi', h1, h2⟩ : ∃ nm' R', Ev (fun n => (mq n nm (vk R)).bind fun (x14 : Bool) => cond x14 ((p8 n q ([] : List Str)).bind fun (x15 : List Str) => ((app 16 x15 (vk R)).bind fun (x16 : List Str) => ((xR n nm x16).bind fun (x17 : Str) => ((app 120 R ([(S_api_Binding.mk nm (Tm.mk 20 x17 0 (Ty.mk 0 ([] : Str) ([])) ([])))])).bind fun (x18 : List S_api_Binding) => some (x18, x17))))) (some (R, nm))) (R', nm') ∧
     R'.length ≤ R.length + 1 ∧ (∀ x ∈ R', cu x.term = true) ∧ ident nm' = true ∧ (jl R' nm = some (oD nm') ∨ (nm' = nm ∧ jl R' nm = none)) ∧
     ∀ x, rA x q = true → x ≠ nm → jl R' x = jl l x ∧ match jl l x with | some u => rA nm' u = false | none => x ≠ nm' := by
    by_cases hm : nm ∈ vk R
    ·obtain ⟨r, er, hr, hri⟩ := aek hnm (used := dw q [] ++ vk R) (by rw [List.length_append]; omega)
     simp only [List.mem_append, not_or] at hr
     refine ⟨r, R ++ [⟨nm, oD r⟩], ?_, by simp, ?_, hri, .inl ?_, ?_⟩
     ·refine Ev.bind (qd nm (vk R)) ?_
      rw [Pe hm]
      simp only [cond_true]
      refine Ev.bind (Ro q (d + 1) [] hwq (by simp; omega)) ?_
      rw [eD (by omega) (by omega)]
      simp only [Option.bind_some]
      refine Ev.bind er ?_
      rw [eD (by simp; omega) (by omega)]
      exact Ev.ret _
     ·intro x hx
      rcases List.mem_append.1 hx with hx | hx
      ·exact hRv x hx
      ·simp only [List.mem_singleton] at hx
       subst hx
       exact (aej (vT hri)).valid (by omega)
     ·rw [Vv, hRn]
      simp
     ·intro x hx hne
      rw [Vv, hRx x hx hne]
      have e : (nm == x) = false := by simpa using fun h => hne h.symm
      cases hlx : jl l x with
      | some u =>
       refine ⟨rfl, ?_⟩
       cases ho : rA r u with
       | false => exact ho
       | true => exact absurd (hin ((hRx x hx hne).trans hlx) r ho) hr.2
      | none => exact ⟨by simp [e], fun h => hr.1 (h ▸ Jj.2 hx)⟩
    ·refine ⟨nm, R, ?_, by omega, hRv, hnm, .inr ⟨rfl, hRn⟩, fun x hx hne => ⟨hRx x hx hne, ?_⟩⟩
     ·refine Ev.bind (qd nm (vk R)) ?_
      rw [LP hm]
      exact Ev.ret _
     ·cases hlx : jl l x with
      | some u =>
       cases ho : rA nm u with
       | false => exact ho
       | true => exact absurd (hin ((hRx x hx hne).trans hlx) nm ho) hm
      | none => exact hne
   obtain ⟨q', eq', sq⟩ := ih q (by simp) (d + 1) R' hwq (by omega) (by omega) hR'v
   refine ⟨.mk op nm' m ty [p', q'], go ?_, .bind hb sp sq (fun _ => hi') h1 h2⟩
   unfold pq
   simp only [Tm.op, Tm.name, Tm.n, Tm.ty, Tm.kids, h20, cond_false]
   refine Ev.bind (mQ ty (GK hnode)) ?_
   simp only [qF, Option.bind_some, hb, Bool.not_true, cond_false, gF, jK]
   refine Ev.bind ep ?_
   refine Ev.bind hR ?_
   refine Ev.bind hN ?_
   simp only [LR.el]
   refine Ev.bind e5 ?_
   exact Ev.bind eq' (Ev.ret _)
end Abs
end Go.Proofs.YtiiaccpcoclklaaGreat
namespace Go.Proofs.YtiiaccpcoclklaaGreat
namespace Abs
open Go
theorem ac2 {s : Str} (h : ident s = true) : s.length ≤ 16 := by
 cases s with
 | nil => cases h
 | cons c cs => simp only [ident, Bool.and_eq_true, decide_eq_true_eq] at h; simp; omega
theorem akR {s : Str} (h : named s = true) : s.length ≤ 17 := by
 have := ac2 h
 unfold EM at this
 split at this
 ·rw [List.length_dropLast] at this; omega
 ·omega
mutual
theorem PI : ∀ t : Tm, F6 t = true → fI t
 | .mk op nm m ty ks, h => by
  simp only [F6, Bool.and_eq_true] at h
  refine ⟨?_, ahQ ks h.2⟩
  have hn := h.1
  simp only [fD, oI, Tm.op, Tm.name, Bool.and_eq_true] at hn
  have hn := hn.2.1
  cases h20 : op == 20 with
  | true => rw [h20] at hn; have := akR hn; omega
  | false =>
   rw [h20] at hn
   cases hb : bD op with
   | true => rw [hb] at hn; have := ac2 hn; omega
   | false =>
    rw [hb] at hn
    have e : nm = [] := by simpa using hn
    rw [e]
    simp
theorem ahQ : ∀ ts : List Tm, EA ts = true → Cb ts
 | [], _ => trivial
 | t :: ts, h => by
  simp only [EA, Bool.and_eq_true] at h
  exact ⟨PI t h.1, ahQ ts h.2⟩
end
end Abs
end Go.Proofs.YtiiaccpcoclklaaGreat

/-
  Sizes of carriers; that a value has a type. Conditions: none; lemmas without a program.
-/
import Derived.Test.YtkopaeklihhdlaaGreatCDoox6402f9
set_option linter.unusedSimpArgs false
set_option linter.unusedVariables false
namespace Go.Proofs.YtkopaeklihhdlaaGreat
namespace Abs
open Go
def Ul (c : Carrier) (s : Int) : Bool := cond (decide (s < 1)) true (cond (decide (8 < s)) true (cond (decide (0 < (c.elems.length : Int))) (s != (c.elems.length : Int)) false))
def Cr : List Carrier → List Int → Bool
 | c :: cs, s :: ss => !(Ul c s) && Cr cs ss
 | _, _ => true
def jK (env : Env) (sz : List Int) : Bool := !((sz.length : Int) != (env.carriers.length : Int)) && Cr env.carriers sz
theorem qx {env : Env} {sz : List Int} (h : jK env sz = true) : sz.length = env.carriers.length := by
 unfold jK at h
 simp only [Bool.and_eq_true, Bool.not_eq_true', bne_eq_false_iff_eq] at h
 omega
theorem TP (c : Carrier) (l : List Int) (i : Int) (s : Int) (h : idx l i = some s) : (((idx l i).bind fun (x2 : Int) => (cond (decide (x2 < 1)) (some true) ((idx l i).bind fun (x3 : Int) => (cond (decide (8 < x3)) (some true) (cond (decide (0 < (c.elems.length : Int))) ((idx l i).bind fun (x4 : Int) => some (x4 != (c.elems.length : Int))) (some false)))))) : Option Bool) = some (Ul c s) := by
 rw [h]
 simp only [Option.bind_some, Ul]
 cases decide (s < 1) <;> cases decide (8 < s) <;> cases decide (0 < (c.elems.length : Int)) <;> rfl
theorem UK (n : Nat) (nm : List Decl) : ∀ (cs : List Carrier) (ss : List Int) (pc : List Carrier) (ps : List Int), pc.length = ps.length → cs.length = ss.length → ∀ k, cs.length + 1 ≤ k → jo n ⟨pc ++ cs, nm⟩ (ps ++ ss) k (pc.length : Int) = some (cond (Cr cs ss) (.nx ()) (.rt false))
 | [], ss, pc, ps, hp, hl, k, hk => by
  obtain ⟨j, rfl⟩ : ∃ j, k = j + 1 := ⟨k - 1, by simp at hk; omega⟩
  unfold jo
  rw [decide_eq_false (by simp)]
  rfl
 | c :: cs, [], pc, ps, hp, hl, k, hk => by simp at hl
 | c :: cs, s :: ss, pc, ps, hp, hl, k, hk => by
  obtain ⟨j, rfl⟩ : ∃ j, k = j + 1 := ⟨k - 1, by simp at hk; omega⟩
  have hi : idx (ps ++ s :: ss) (pc.length : Int) = some s := by rw [hp]; exact iy _ _ _
  have ih := UK n nm cs ss (pc ++ [c]) (ps ++ [s]) (by simp [hp]) (by simpa using hl) j (by simp at hk; omega)
  unfold jo
  rw [decide_eq_true (by simp; omega)]
  simp only [cond_true]
  rw [iy]
  simp only [Option.bind_some]
  rw [TP c _ _ s hi]
  simp only [Option.bind_some, Cr]
  cases hb : Ul c s with
  | true => rfl
  | false =>
   simp only [cond_false, Bool.not_false, Bool.true_and]
   rw [show (pc.length : Int) + 1 = ((pc ++ [c]).length : Int) by simp]
   simpa using ih
theorem Po (n : Nat) (nm : List Decl) : ∀ (cs : List Carrier) (ss : List Int) (pc : List Carrier) (ps : List Int), pc.length = ps.length → cs.length = ss.length → ∀ k, cs.length + 1 ≤ k → qB n ⟨pc ++ cs, nm⟩ (ps ++ ss) k (pc.length : Int) = some (cond (Cr cs ss) (.nx ()) (.rt false))
 | [], ss, pc, ps, hp, hl, k, hk => by
  obtain ⟨j, rfl⟩ : ∃ j, k = j + 1 := ⟨k - 1, by simp at hk; omega⟩
  have : ss = [] := List.length_eq_zero_iff.1 (by simpa using hl.symm)
  subst this
  unfold qB
  rw [decide_eq_false (by simp [hp])]
  rfl
 | c :: cs, [], pc, ps, hp, hl, k, hk => by simp at hl
 | c :: cs, s :: ss, pc, ps, hp, hl, k, hk => by
  obtain ⟨j, rfl⟩ : ∃ j, k = j + 1 := ⟨k - 1, by simp at hk; omega⟩
  have hi : idx (ps ++ s :: ss) (pc.length : Int) = some s := by rw [hp]; exact iy _ _ _
  have ih := Po n nm cs ss (pc ++ [c]) (ps ++ [s]) (by simp [hp]) (by simpa using hl) j (by simp at hk; omega)
  unfold qB
  rw [decide_eq_true (by simp; omega)]
  simp only [cond_true]
  rw [iy]
  simp only [Option.bind_some]
  rw [TP c _ _ s hi]
  simp only [Option.bind_some, Cr]
  cases hb : Ul c s with
  | true => rfl
  | false =>
   simp only [cond_false, Bool.not_false, Bool.true_and]
   rw [show (pc.length : Int) + 1 = ((pc ++ [c]).length : Int) by simp]
   simpa using ih
theorem BM (env : Env) (sz : List Int) : Ev (fun n => mg n env sz) (jK env sz) := by
 unfold mg jK
 cases h : ((sz.length : Int) != (env.carriers.length : Int)) with
 | true => exact Ev.ret _
 | false =>
  simp only [bne_eq_false_iff_eq] at h
  simp only [cond_false, Bool.not_false, Bool.true_and]
  refine Ev.bind (a := cond (Cr env.carriers sz) (.nx ()) (.rt false)) ⟨env.carriers.length + 1, fun n hn => ?_⟩ ?_
  ·have := UK n env.names env.carriers sz [] [] rfl (by omega) n hn
   simpa using this
  ·cases Cr env.carriers sz <;> exact Ev.ret _
theorem Oq (env : Env) (sz : List Int) : Ev (fun n => xR n env sz) (jK env sz) := by
 unfold xR jK
 cases h : ((sz.length : Int) != (env.carriers.length : Int)) with
 | true => exact Ev.ret _
 | false =>
  simp only [bne_eq_false_iff_eq] at h
  simp only [cond_false, Bool.not_false, Bool.true_and]
  refine Ev.bind (a := cond (Cr env.carriers sz) (.nx ()) (.rt false)) ⟨env.carriers.length + 1, fun n hn => ?_⟩ ?_
  ·have := Po n env.names env.carriers sz [] [] rfl (by omega) n hn
   simpa using this
  ·cases Cr env.carriers sz <;> exact Ev.ret _
inductive Shp : Ty → Prop where
 | int : Shp (.mk 1 [] [])
 | bool : Shp (.mk 2 [] [])
 | car (nm : Str) : Shp (.mk 3 nm [])
 | pair {a b : Ty} (h : Shp a) (k : Shp b) : Shp (.mk 4 [] [a, b])
 | set {a : Ty} (h : Shp a) : Shp (.mk 5 [] [a])
mutual
theorem ZB : ∀ (t : Ty) (d c : Int), (pf t d c).1 = true → Shp t
 | .mk k nm ks, d, c, h => by
  simp only [pf] at h
  cases hb : ((decide (c + 1 ≤ 16) && decide (d ≤ 6)) && iK k nm ks.length d) with
  | false => rw [hb] at h; cases h
  | true =>
   rw [hb] at h
   simp only [cond_true] at h
   have hs := XH ks (d + 1) (c + 1) h
   simp only [iK, Bool.and_eq_true, Bool.or_eq_true, beq_iff_eq] at hb
   obtain ⟨_, _, hk, hn⟩ := hb
   rcases hk with ⟨hk, hl⟩ | ⟨rfl, hl⟩ | ⟨rfl, hl⟩
   ·have : ks = [] := List.length_eq_zero_iff.1 hl
    subst this
    rcases hk with rfl | rfl | rfl
    ·have : nm = [] := by simpa using hn
     subst this; exact .int
    ·have : nm = [] := by simpa using hn
     subst this; exact .bool
    ·exact .car nm
   ·have : nm = [] := by simpa using hn
    subst this
    match ks, hl with
    | [a, b], _ => exact .pair (hs a (by simp)) (hs b (by simp))
   ·have : nm = [] := by simpa using hn
    subst this
    match ks, hl with
    | [a], _ => exact .set (hs a (by simp))
theorem XH : ∀ (ks : List Ty) (d c : Int), (lD ks d c).1 = true → ∀ t ∈ ks, Shp t
 | [], _, _, _, _, ht => by cases ht
 | k :: ks, d, c, h, t, ht => by
  simp only [lD] at h
  cases h1 : (pf k d c).1 with
  | false => rw [h1] at h; cases h
  | true =>
   rw [h1] at h
   simp only [cond_true] at h
   rcases List.mem_cons.1 ht with h2 | ht
   ·have h3 := ZB k d c h1
    rw [h2]; exact h3
   ·exact XH ks d _ h t ht
end
theorem mV {t : Ty} (h : eH t = true) : Shp t := ZB t 1 0 h
def y7 : List Val → Bool
 | a :: b :: r => !(decide (0 ≤ bW a b)) && y7 (b :: r)
 | _ => true
def KQ (v : Val) : Bool := v.kind == 1 && (v.name == [] && ((v.kids.length : Int) == 0 && (decide ((-1000000000) ≤ v.n) && decide (v.n ≤ 1000000000))))
def KR (v : Val) : Bool := v.kind == 2 && (v.name == [] && ((v.kids.length : Int) == 0 && (v.n == 0 || v.n == 1)))
def Yu (env : Env) (sz : List Int) (nm : Str) : Int := (idx sz (gM (fun c => c.name == nm) 0 env.carriers)).getD 0
def J3 (env : Env) (sz : List Int) (nm : Str) (v : Val) : Bool := v.kind == 3 && (v.name == nm && ((v.kids.length : Int) == 0 && (decide (0 ≤ v.n) && decide (v.n < Yu env sz nm))))
mutual
def hasB (env : Env) (sz : List Int) : Ty → Val → Bool
 | .mk k nm ks, v => cond (k == 1) (KQ v) (cond (k == 2) (KR v) (cond (k == 3) (J3 env sz nm v) (cond (k == 4) (v.kind == 4 && (v.n == 0 && (v.name == [] && ((v.kids.length : Int) == 2 && EC env sz ks v.kids))))
   ((v.kind == 5 && (v.n == 0 && (v.name == [] && !(decide (256 < (v.kids.length : Int)))))) && (Sm env sz ks v.kids && y7 v.kids)))))
def EC (env : Env) (sz : List Int) : List Ty → List Val → Bool
 | [], _ => true
 | t :: ts, vs => match vs with
  | [] => true
  | v :: vs => hasB env sz t v && EC env sz ts vs
def Sm (env : Env) (sz : List Int) : List Ty → List Val → Bool
 | [], _ => true
 | t :: _, vs => vs.all fun v => hasB env sz t v
end
theorem Un (env : Env) (s : Str) : Ev (fun n => tu n env s) (gM (fun c => c.name == s) 0 env.carriers) := by
 unfold tu iT
 refine Ev.bind (nS env.carriers (fun n k i => fF n env.carriers s k i) (fun _ x => some (x.name == s)) (fun c => c.name == s) (fun n k i => rfl) (fun x _ => Ev.ret _)) (Ev.ret _)
theorem Xq {env : Env} {sz : List Int} {nm : Str} (hl : sz.length = env.carriers.length) (h : bR env nm = true) : 0 ≤ gM (fun c => c.name == nm) 0 env.carriers ∧ idx sz (gM (fun c => c.name == nm) 0 env.carriers) = some (Yu env sz nm) := by
 have hg := qK (fun c : Carrier => c.name == nm) env.carriers 0 (Int.le_refl _)
 have hany : env.carriers.any (fun c => c.name == nm) = true := h
 rw [hany] at hg
 have h0 : 0 ≤ gM (fun c : Carrier => c.name == nm) 0 env.carriers := by simpa using hg
 refine ⟨h0, ?_⟩
 rcases mZ (fun c : Carrier => c.name == nm) env.carriers [] with ⟨x, _, _, g1, g2⟩ | ⟨_, g⟩
 ·simp only [List.length_nil, List.nil_append] at g1 g2
  unfold Yu
  unfold idx at g2 ⊢
  rw [show (((0 : Nat) : Int)) = 0 from rfl] at g2
  rw [if_pos h0] at g2 ⊢
  have hlt := (List.getElem?_eq_some_iff.1 g2).1
  rw [List.getElem?_eq_getElem (by omega)]
  rfl
 ·simp only [List.length_nil] at g
  rw [show (((0 : Nat) : Int)) = 0 from rfl] at g
  omega
theorem SL (p2 : Val) : ∀ (suf pre : List Val) (x : Val), p2.kids = pre ++ [x] ++ suf → p2.kids.length ≤ 256 → ∃ N, ∀ n, N ≤ n → ∀ k, suf.length + 1 ≤ k → ∀ r1 r2, lH n r1 r2 p2 k ((pre ++ [x]).length : Int) = some (cond (y7 (x :: suf)) (.nx ()) (.rt false))
 | [], pre, x, e, hl => by
  refine ⟨0, fun n _ k hk r1 r2 => ?_⟩
  obtain ⟨j, rfl⟩ : ∃ j, k = j + 1 := ⟨k - 1, by simp at hk; omega⟩
  unfold lH
  rw [decide_eq_false (by rw [e]; simp)]
  rfl
 | y :: suf, pre, x, e, hl => by
  obtain ⟨N1, h1⟩ := qE x y
  obtain ⟨N2, h2⟩ := SL p2 suf (pre ++ [x]) y (by rw [e]; simp) hl
  refine ⟨N1 + N2, fun n hn k hk r1 r2 => ?_⟩
  obtain ⟨j, rfl⟩ : ∃ j, k = j + 1 := ⟨k - 1, by simp at hk; omega⟩
  have h1 : dI n x y = _ := h1 n (by omega)
  have h2 := h2 n (by omega) j (by simp at hk; omega) r1 r2
  have hlen : pre.length + 1 ≤ 256 := by rw [e] at hl; simp at hl; omega
  have ew : IntKind.wrap .i64 (((pre ++ [x]).length : Int) - 1) = (pre.length : Int) := by
   rw [List.length_append, List.length_singleton, wrap64 (by omega) (by omega)]; omega
  have i1 : idx p2.kids (pre.length : Int) = some x := by rw [e, List.append_assoc, List.singleton_append]; exact iy _ _ _
  have i2 : idx p2.kids ((pre ++ [x]).length : Int) = some y := by rw [e]; exact iy _ _ _
  unfold lH
  rw [decide_eq_true (by rw [e]; simp; omega), ew, i1, i2]
  simp only [cond_true, Option.bind_some]
  rw [h1]
  simp only [Option.bind_some, y7]
  cases decide (0 ≤ bW x y) with
  | true => rfl
  | false =>
   simp only [cond_false, Bool.not_false, Bool.true_and]
   rw [show ((pre ++ [x]).length : Int) + 1 = ((pre ++ [x] ++ [y]).length : Int) by simp only [List.length_append, List.length_singleton]; omega]
   exact h2
theorem P8 (env : Env) (sz : List Int) (t : Ty) (H : ∀ v, Ev (fun n => fu n env sz v t) (hasB env sz t v)) : ∀ (suf pre : List Val), ∃ N, ∀ n, N ≤ n → ∀ k, suf.length + 1 ≤ k → ji n (fun p0 p1 p2 p3 => fu n p0 p1 p2 p3) (fun p0 p1 p2 p3 p4 p5 p6 p7 => jV n p0 p1 p2 p3 p4 p5 p6 p7) [t] (pre ++ suf) env.carriers env.names sz k (pre.length : Int) = some (cond (suf.all fun v => hasB env sz t v) (.nx ()) (.rt false))
 | [], pre => by
  refine ⟨0, fun n _ k hk => ?_⟩
  obtain ⟨j, rfl⟩ : ∃ j, k = j + 1 := ⟨k - 1, by simp at hk; omega⟩
  unfold ji
  rw [decide_eq_false (by simp)]
  rfl
 | v :: suf, pre => by
  obtain ⟨N1, h1⟩ := H v
  obtain ⟨N2, h2⟩ := P8 env sz t H suf (pre ++ [v])
  refine ⟨N1 + N2, fun n hn k hk => ?_⟩
  obtain ⟨j, rfl⟩ : ∃ j, k = j + 1 := ⟨k - 1, by simp at hk; omega⟩
  have h1 : fu n env sz v t = _ := h1 n (by omega)
  have h2 := h2 n (by omega) j (by simp at hk; omega)
  have i2 : idx [t] (if (([t].length : Int) - 1) < (pre.length : Int) then (([t].length : Int) - 1) else (pre.length : Int)) = some t := by
   simp only [List.length_singleton]
   have : (if (((1 : Nat) : Int) - 1) < (pre.length : Int) then (((1 : Nat) : Int) - 1) else (pre.length : Int)) = 0 := by split <;> omega
   rw [this]
   rfl
  unfold ji
  rw [decide_eq_true (by simp; omega), iy, i2]
  simp only [cond_true, Option.bind_some]
  rw [show fu n (Env.mk env.carriers env.names) sz v t = fu n env sz v t from rfl, h1]
  simp only [Option.bind_some, List.all_cons]
  cases hasB env sz t v with
  | false => rfl
  | true =>
   simp only [Bool.not_true, cond_false, Bool.true_and]
   rw [show (pre.length : Int) + 1 = ((pre ++ [v]).length : Int) by simp]
   simpa using h2
theorem adi (env : Env) (sz : List Int) (t u : Ty) (a b : Val) (k n : Int) (s : Str) (H1 : Ev (fun n => fu n env sz a t) (hasB env sz t a)) (H2 : Ev (fun n => fu n env sz b u) (hasB env sz u b)) : Ev (fun m => jV m [t, u] k n s [a, b] env.carriers env.names sz) (EC env sz [t, u] [a, b]) := by
 refine Ev.succ ?_
 obtain ⟨N1, h1⟩ := H1
 obtain ⟨N2, h2⟩ := H2
 refine ⟨N1 + N2 + 3, fun m hm => ?_⟩
 have h1 : fu m (Env.mk env.carriers env.names) sz a t = _ := h1 m (by omega)
 have h2 : fu m (Env.mk env.carriers env.names) sz b u = _ := h2 m (by omega)
 show j5 m _ _ [t, u] k n s [a, b] env.carriers env.names sz = _
 unfold j5
 obtain ⟨j, hj⟩ : ∃ j, m = j + 3 := ⟨m - 3, by omega⟩
 have e1 : ji m (fun p0 p1 p2 p3 => fu m p0 p1 p2 p3) (fun p0 p1 p2 p3 p4 p5 p6 p7 => jV m p0 p1 p2 p3 p4 p5 p6 p7) [t, u] [a, b] env.carriers env.names sz (j + 3) 0 = some (cond (EC env sz [t, u] [a, b]) (.nx ()) (.rt false)) := by
  have i0 : idx [t, u] (if (((([t, u] : List Ty)).length : Int) - 1) < 0 then ((([t, u] : List Ty).length : Int) - 1) else 0) = some t := rfl
  have i1 : idx [t, u] (if (((([t, u] : List Ty)).length : Int) - 1) < 0 + 1 then ((([t, u] : List Ty).length : Int) - 1) else 0 + 1) = some u := rfl
  simp only [ji, i0, i1, show idx [a, b] 0 = some a from rfl, show idx [a, b] (0 + 1) = some b from rfl, Option.bind_some, show decide ((0 : Int) < (([a, b] : List Val).length : Int)) = true from rfl, show decide ((0 + 1 : Int) < (([a, b] : List Val).length : Int)) = true from rfl, show decide ((0 + 1 + 1 : Int) < (([a, b] : List Val).length : Int)) = false from rfl, cond_true, cond_false, h1, h2, EC]
  cases hasB env sz t a <;> cases hasB env sz u b <;> rfl
 rw [← hj] at e1
 rw [e1]
 cases EC env sz [t, u] [a, b] <;> rfl
theorem UF (env : Env) (sz : List Int) (hl : sz.length = env.carriers.length) : ∀ {t : Ty}, Shp t → (bY t).all (bR env) = true → ∀ v, Ev (fun n => fu n env sz v t) (hasB env sz t v) := by
 intro t h
 induction h with
 | int =>
  intro _ v
  refine Ev.succ ?_
  show Ev (fun n => fB n _ _ env sz v (.mk 1 [] [])) _
  unfold fB
  refine Ev.pos rfl ?_
  refine Ev.bind (a := KQ v) ?_ (Ev.ret _)
  unfold KQ
  cases v.kind == 1 <;> cases decide ((-1000000000) ≤ v.n) <;> cases decide (v.n ≤ 1000000000) <;> cases v.name == [] <;> cases (v.kids.length : Int) == 0 <;> exact Ev.ret _
 | bool =>
  intro _ v
  refine Ev.succ ?_
  show Ev (fun n => fB n _ _ env sz v (.mk 2 [] [])) _
  unfold fB
  refine Ev.neg rfl ?_
  refine Ev.pos rfl ?_
  refine Ev.bind (a := KR v) ?_ (Ev.ret _)
  unfold KR
  cases v.kind == 2 <;> cases v.n == 0 <;> cases v.n == 1 <;> cases v.name == [] <;> cases (v.kids.length : Int) == 0 <;> exact Ev.ret _
 | car nm =>
  intro hc v
  have hc : bR env nm = true := by simpa [bY] using hc
  obtain ⟨g1, g2⟩ := Xq hl hc
  refine Ev.succ ?_
  show Ev (fun n => fB n _ _ env sz v (.mk 3 nm [])) _
  unfold fB
  refine Ev.neg rfl ?_
  refine Ev.neg rfl ?_
  refine Ev.pos rfl ?_
  refine Ev.bind (Un env nm) ?_
  refine Ev.bind (a := J3 env sz nm v) ?_ (Ev.ret _)
  simp only [decide_eq_true g1, cond_true, g2, Option.bind_some, Ty.name]
  unfold J3
  cases v.kind == 3 <;> cases v.name == nm <;> cases decide (0 ≤ v.n) <;> cases decide (v.n < Yu env sz nm) <;> cases (v.kids.length : Int) == 0 <;> exact Ev.ret _
 | @pair a b ha hb iha ihb =>
  intro hc v
  simp only [bY, iG, List.append_nil, show ((4 : Int) == 3) = false from rfl, cond_false, List.all_append, Bool.and_eq_true] at hc
  refine Ev.succ ?_
  show Ev (fun n => fB n _ _ env sz v (.mk 4 [] [a, b])) _
  unfold fB
  refine Ev.neg rfl ?_
  refine Ev.neg rfl ?_
  refine Ev.neg rfl ?_
  refine Ev.pos rfl ?_
  refine Ev.bind (a := hasB env sz (.mk 4 [] [a, b]) v) ?_ (Ev.ret _)
  simp only [hasB, show ((4 : Int) == 1) = false from rfl, show ((4 : Int) == 2) = false from rfl, show ((4 : Int) == 3) = false from rfl, show ((4 : Int) == 4) = true from rfl, cond_false, cond_true, Ty.kids]
  cases v.kind == 4 with
  | false => exact Ev.ret _
  | true =>
   cases v.n == 0 with
   | false => exact Ev.ret _
   | true =>
    cases v.name == [] with
    | false => exact Ev.ret _
    | true =>
     cases h2 : (v.kids.length : Int) == 2 with
     | false => exact Ev.ret _
     | true =>
      simp only [cond_true, Bool.true_and]
      obtain ⟨k, n, s, ks⟩ := v
      simp only [Val.kids, beq_iff_eq] at h2
      match ks, h2 with
      | [x, y], _ => exact Ev.bind (adi env sz a b x y k n s (iha hc.1 x) (ihb hc.2 y)) (Ev.ret _)
 | @set a ha iha =>
  intro hc v
  simp only [bY, iG, List.append_nil, show ((5 : Int) == 3) = false from rfl, cond_false] at hc
  have H := iha hc
  refine Ev.succ ?_
  show Ev (fun n => fB n _ _ env sz v (.mk 5 [] [a])) _
  unfold fB
  refine Ev.neg rfl ?_
  refine Ev.neg rfl ?_
  refine Ev.neg rfl ?_
  refine Ev.neg rfl ?_
  refine Ev.pos rfl ?_
  simp only [hasB, show ((5 : Int) == 1) = false from rfl, show ((5 : Int) == 2) = false from rfl, show ((5 : Int) == 3) = false from rfl, show ((5 : Int) == 4) = false from rfl, cond_false, Ty.kids]
  have e1 : (v.kind != 5) = !(v.kind == 5) := rfl
  have e2 : (v.n != 0) = !(v.n == 0) := rfl
  rw [e1, e2]
  cases v.kind == 5 with
  | false => refine Ev.bind (a := true) (Ev.ret _) ?_; exact Ev.ret _
  | true =>
   cases v.n == 0 with
   | false => refine Ev.bind (a := true) (Ev.ret _) ?_; exact Ev.ret _
   | true =>
    cases v.name == [] with
    | false => refine Ev.bind (a := true) (Ev.ret _) ?_; exact Ev.ret _
    | true =>
     cases h256 : decide (256 < (v.kids.length : Int)) with
     | true => refine Ev.bind (a := true) (Ev.ret _) ?_; exact Ev.ret _
     | false =>
      have hlen : v.kids.length ≤ 256 := by simp at h256; omega
      have hk : Ev (fun n => jV n [a] v.kind v.n v.name v.kids env.carriers env.names sz) (v.kids.all fun v => hasB env sz a v) := by
       obtain ⟨N, h⟩ := P8 env sz a H v.kids []
       refine Ev.succ ?_
       refine ⟨N + v.kids.length + 1, fun n hn => ?_⟩
       have := h n (by omega) n (by omega)
       simp only [List.nil_append, List.length_nil] at this
       show j5 n _ _ [a] v.kind v.n v.name v.kids env.carriers env.names sz = _
       unfold j5
       rw [show ((0 : Nat) : Int) = 0 from rfl] at this
       rw [this]
       cases (v.kids.all fun v => hasB env sz a v) <;> rfl
      simp only [Bool.not_true, cond_false, Bool.not_false, Bool.true_and, Sm]
      refine Ev.bind (Ev.bind hk (Ev.ret _)) ?_
      cases (v.kids.all fun v => hasB env sz a v) with
      | false => exact Ev.ret _
      | true =>
       simp only [Bool.not_true, cond_false, Bool.true_and]
       refine Ev.bind (a := cond (y7 v.kids) (.nx ()) (.rt false)) ?_ (by cases y7 v.kids <;> exact Ev.ret _)
       cases hks : v.kids with
       | nil =>
        refine ⟨1, fun n hn => ?_⟩
        obtain ⟨j, rfl⟩ : ∃ j, n = j + 1 := ⟨n - 1, by omega⟩
        show lH (j + 1) _ _ v (j + 1) 1 = _
        unfold lH
        rw [decide_eq_false (by rw [hks]; simp)]
        rfl
       | cons x xs =>
        obtain ⟨N, h⟩ := SL v xs [] x (by rw [hks]; rfl) hlen
        refine ⟨N + xs.length + 1, fun n hn => ?_⟩
        have := h n (by omega) n (by omega) (fun p0 p1 p2 p3 => fu n p0 p1 p2 p3) (fun p0 p1 p2 p3 p4 p5 p6 p7 => jV n p0 p1 p2 p3 p4 p5 p6 p7)
        exact this
theorem bZ {env : Env} (h : bn env = true) : env.carriers.length ≤ 8 ∧ env.names.length ≤ 64 ∧ env.carriers.all xO = true ∧ env.names.all (tO env) = true ∧ (names2 env).Nodup := by
 simp only [bn, Bool.and_eq_true, Bool.not_eq_true', Bool.or_eq_false_iff, decide_eq_false_iff_not, Ka] at h
 obtain ⟨⟨h1, h2⟩, h3, h4, h5⟩ := h
 exact ⟨by omega, by omega, h3, h4, h5⟩
theorem zo {env : Env} (h : bn env = true) {d : Decl} (hd : d ∈ env.names) : named d.name = true ∧ eH d.ty = true ∧ mM 2 d.ty = false ∧ (bY d.ty).all (bR env) = true := by
 have := List.all_eq_true.1 (bZ h).2.2.2.1 d hd
 simp only [tO, Bool.and_eq_true, Bool.not_eq_true'] at this
 exact ⟨this.1, this.2.1.1, this.2.1.2, this.2.2⟩
theorem sI {env : Env} (h : bn env = true) {c : Carrier} (hc : c ∈ env.carriers) : ident c.name = true ∧ c.elems.length ≤ 8 ∧ c.elems.all ident = true := by
 have := List.all_eq_true.1 (bZ h).2.2.1 c hc
 simp only [xO, Bool.and_eq_true, Bool.not_eq_true', decide_eq_false_iff_not] at this
 exact ⟨this.1, by omega, this.2.2⟩
def xu (s : Str) : Ty := .mk 3 s []
def EB (t : Ty) : Ty := .mk 5 [] [t]
def MF (env : Env) : List (Str × Ty) := (env.names.map fun d => (d.name, d.ty)) ++ ((env.carriers.map fun c => (c.name, EB (xu c.name))) ++ env.carriers.flatMap fun c => c.elems.map fun e => (e, xu c.name))
def look (env : Env) (s : Str) : Option Ty := dO (MF env) s
theorem yt (env : Env) (s : Str) : Ev (fun n => jL n env s) (gM (fun d => d.name == s) 0 env.names) := by
 unfold jL
 exact nS env.names (fun n k i => qh n env s k i) (fun _ x => some (x.name == s)) (fun c => c.name == s) (fun n k i => rfl) (fun x _ => Ev.ret _)
theorem zx {env : Env} (h : bn env = true) : Ev (fun n => mQ n env) (env.carriers, env.names) := by
 obtain ⟨hc8, hn64, _, _, _⟩ := bZ h
 unfold mQ
 have h1 := iD (ρ := (List Carrier) × (List Decl)) env.carriers (fun n k i s => qO n env k (i, s)) (fun n x s => (app 16 ([] : List Str) x.elems).bind fun x5 => app 40 s [Carrier.mk x.name x5]) (fun x s => s ++ [x]) (fun s => s) (fun suf s => s.length + suf.length ≤ 8)
  (fun n k i s => by
   show cond _ _ _ = _
   congr 1
   show (idx env.carriers i).bind _ = _
   congr 1
   funext x
   simp only [Option.bind_assoc])
  (fun x suf s hx hs => by
   simp only [List.length_cons] at hs
   have hx8 := (sI h hx).2.1
   refine ⟨?_, ?_⟩
   ·rw [eX (by simp only [List.length_nil]; omega) (by omega), Option.bind_some, eX (by simp only [List.length_singleton]; omega) (by omega)]
    exact Ev.ret _
   ·simp only [List.length_append, List.length_singleton]; omega) (s0 := ([] : List Carrier)) (by simp only [List.length_nil]; omega)
 rw [mP, List.nil_append] at h1
 have h2 := iD (ρ := (List Carrier) × (List Decl)) env.names (fun n k i s => qY n env k (i, s)) (fun n x s => (d9 n x.ty).bind fun x2 => app 64 s [Decl.mk x.name x2]) (fun x s => s ++ [x]) (fun s => s) (fun suf s => s.length + suf.length ≤ 64)
  (fun n k i s => by
   show cond _ _ _ = _
   congr 1
   show (idx env.names i).bind _ = _
   congr 1
   funext x
   simp only [Option.bind_assoc])
  (fun x suf s hx hs => by
   simp only [List.length_cons] at hs
   refine ⟨?_, ?_⟩
   ·refine Ev.bind (yB x.ty (rO (zo h hx).2.1).1) ?_
    rw [eX (by simp only [List.length_singleton]; omega) (by omega)]
    exact Ev.ret _
   ·simp only [List.length_append, List.length_singleton]; omega) (s0 := ([] : List Decl)) (by simp only [List.length_nil]; omega)
 rw [mP, List.nil_append] at h2
 exact Ev.bind h1 (Ev.bind h2 (Ev.ret _))
theorem acF (l : List Str) : Ev (fun n => vN n l l) true := by
 unfold vN
 simp only [qo, cond_false]
 have h := iH l (fun n k i => tQ n l l k i) (fun _ _ => some false) (fun _ => false) false
  (fun n k i => by
   show cond _ _ _ = _
   congr 1
   cases hx : idx l i with
   | none => rfl
   | some x => simp only [Option.bind_some, beq_self_eq_true, Bool.not_true])
  (fun x _ => Ev.ret _)
 rw [CF] at h
 exact Ev.bind h (Ev.ret _)
theorem Ew (e : Env) : Ev (fun n => qC n e e) true := by
 unfold qC
 simp only [qo, cond_false, Option.bind_some]
 have h1 := iH e.carriers (fun n k i => qX n e e k i) (fun n x => (jH n x x).bind fun b => some (!b)) (fun _ => false) false
  (fun n k i => by
   show cond _ _ _ = _
   congr 1
   cases hx : idx e.carriers i with
   | none => rfl
   | some x => simp only [Option.bind_some, Option.bind_assoc])
  (fun x _ => by
   refine Ev.bind (a := true) ?_ (Ev.ret _)
   unfold jH
   simp only [beq_self_eq_true, cond_true]
   exact Ev.bind (Ev.bind (acF _) (Ev.ret _)) (Ev.ret _))
 rw [CF] at h1
 have h2 := iH e.names (fun n k i => qM n e e k i) (fun n x => (bf n x.ty x.ty).bind fun b => some (!b)) (fun _ => false) false
  (fun n k i => by
   show cond _ _ _ = _
   congr 1
   cases hx : idx e.names i with
   | none => rfl
   | some x => simp only [Option.bind_some, Option.bind_assoc, beq_self_eq_true, Bool.not_true, cond_false])
  (fun x _ => Ev.bind (xY x.ty) (Ev.ret _))
 rw [CF] at h2
 exact Ev.bind h1 (Ev.bind h2 (Ev.ret _))
theorem XK {α β γ : Type} (l : List α) (l' : List β) (i : Int) (F : α → β → Option γ) : ((idx l i).bind fun x => (idx l' i).bind fun y => F x y) = (idx (l.zip l') i).bind fun p => F p.1 p.2 := by
 unfold idx
 by_cases h : 0 ≤ i
 ·simp only [if_pos h, List.zip, List.getElem?_zipWith]
  cases l[i.toNat]? <;> cases l'[i.toNat]? <;> rfl
 ·simp only [if_neg h]; rfl
theorem yQ {α β ρ : Type} (l : List α) (l' : List β) (hlen : l.length = l'.length) (L : Nat → Nat → Int → Option (LR Unit ρ)) (step : Nat → α → β → Option Bool) (p : α → β → Bool) (r : ρ)
  (hL : ∀ n k i, L n (k + 1) i = cond (decide (i < (l.length : Int))) ((idx l i).bind fun x => (idx l' i).bind fun y => (step n x y).bind fun b => cond b (some (.rt r)) (L n k (i + 1))) (some (.nx ())))
  (hp : ∀ x ∈ l, ∀ y, Ev (fun n => step n x y) (p x y)) : Ev (fun n => L n n 0) (cond ((l.zip l').any fun q => p q.1 q.2) (.rt r) (.nx ())) := by
 refine iH (l.zip l') L (fun n q => step n q.1 q.2) (fun q => p q.1 q.2) r (fun n k i => ?_) (fun q hq => hp q.1 (List.of_mem_zip hq).1 q.2)
 rw [hL, ← XK l l' i fun x y => (step n x y).bind fun b => cond b (some (.rt r)) (L n k (i + 1))]
 have : ((l.zip l').length : Int) = (l.length : Int) := by rw [List.length_zip, ← hlen, Nat.min_self]
 rw [this]
structure Joined (a b : Env) (cs : List Carrier) (ds : List Decl) : Prop where
 c1 : ∀ c ∈ a.carriers, c ∈ cs
 c2 : ∀ c ∈ b.carriers, c ∈ cs
 c3 : ∀ c ∈ cs, c ∈ a.carriers ∨ c ∈ b.carriers
 d1 : ∀ d ∈ a.names, d ∈ ds
 d2 : ∀ d ∈ b.names, d ∈ ds
 d3 : ∀ d ∈ ds, d ∈ a.names ∨ d ∈ b.names
 cl : cs.length ≤ a.carriers.length + b.carriers.length
 dl : ds.length ≤ a.names.length + b.names.length
def Uu (f : Val → Bool) : Val → List Val → Bool
 | _, [] => true
 | x, y :: s => f y && (!(decide (0 ≤ bW x y)) && Uu f y s)
theorem XU (f : Val → Bool) : ∀ (s : List Val) (x : Val), Uu f x s = (s.all f && y7 (x :: s))
 | [], _ => rfl
 | y :: s, x => by
  simp only [Uu, List.all_cons, y7]
  rw [XU f s y]
  cases f y <;> cases decide (0 ≤ bW x y) <;> cases s.all f <;> cases y7 (y :: s) <;> rfl
theorem aa7 (env : Env) (sz : List Int) (ty t : Ty) (v : Val) (pre : List Val) (x y : Val) (suf : List Val) (hk : v.kids = pre ++ [x] ++ y :: suf) (ht : ty.kids = [t]) (hx : dX x) (H : Ev (fun n => kS n env sz y t) (hasB env sz t y)) : Ev (fun n => (((idx v.kids ((pre ++ [x]).length : Int)).bind fun (x9 : Val) => ((idx ty.kids 0).bind fun (x10 : Ty) => ((kS n env sz x9 x10).bind fun (x11 : Bool) => (cond (!x11) (some true) (cond (decide (0 < ((pre ++ [x]).length : Int))) ((idx v.kids (((pre ++ [x]).length : Int) - 1)).bind fun (x12 : Val) => ((idx v.kids ((pre ++ [x]).length : Int)).bind fun (x13 : Val) => ((fP n x12 x13).bind fun (x14 : Int) => some (decide (0 ≤ x14))))) (some false)))))) : Option Bool)) (!(hasB env sz t y && !(decide (0 ≤ bW x y)))) := by
 have ew : (((pre ++ [x]).length : Int) - 1) = (pre.length : Int) := by rw [List.length_append, List.length_singleton]; omega
 have i1 : idx v.kids (pre.length : Int) = some x := by rw [hk, List.append_assoc, List.singleton_append]; exact iy _ _ _
 have i2 : idx v.kids ((pre ++ [x]).length : Int) = some y := by rw [hk]; exact iy _ _ _
 rw [ew, i1, i2, ht, decide_eq_true (show 0 < (((pre ++ [x]).length : Nat) : Int) by rw [List.length_append, List.length_singleton]; omega)]
 simp only [Option.bind_some, cond_true, show idx [t] 0 = some t from rfl]
 refine Ev.bind H ?_
 cases hasB env sz t y with
 | false => exact Ev.ret _
 | true =>
  simp only [Bool.not_true, cond_false, Bool.true_and, Bool.not_not]
  exact Ev.bind (Cm x y hx) (Ev.ret _)
theorem O9 (env : Env) (sz : List Int) (ty t : Ty) (v : Val) (ht : ty.kids = [t]) (H : ∀ u, dX u → Ev (fun n => kS n env sz u t) (hasB env sz t u)) (hv : ∀ u ∈ v.kids, dX u) : ∀ (suf pre : List Val) (x : Val), v.kids = pre ++ [x] ++ suf → ∃ N, ∀ n, N ≤ n → ∀ k, suf.length + 1 ≤ k → kJ n (fun p0 p1 p2 p3 => kS n p0 p1 p2 p3) env sz v ty k ((pre ++ [x]).length : Int) = some (cond (Uu (hasB env sz t) x suf) (.nx ()) (.rt false))
 | [], pre, x, e => by
  refine ⟨0, fun n _ k hk => ?_⟩
  obtain ⟨j, rfl⟩ : ∃ j, k = j + 1 := ⟨k - 1, by simp at hk; omega⟩
  unfold kJ
  rw [decide_eq_false (by rw [e]; simp)]
  rfl
 | y :: suf, pre, x, e => by
  obtain ⟨N1, h1⟩ := aa7 env sz ty t v pre x y suf e ht (hv x (by rw [e]; simp)) (H y (hv y (by rw [e]; simp)))
  obtain ⟨N2, h2⟩ := O9 env sz ty t v ht H hv suf (pre ++ [x]) y (by rw [e]; simp)
  refine ⟨N1 + N2, fun n hn k hk => ?_⟩
  obtain ⟨j, rfl⟩ : ∃ j, k = j + 1 := ⟨k - 1, by simp at hk; omega⟩
  have h1 := h1 n (by omega)
  have h2 := h2 n (by omega) j (by simp at hk; omega)
  unfold kJ
  rw [decide_eq_true (by rw [e]; simp; omega)]
  simp only [cond_true]
  simp only at h1
  rw [h1]
  simp only [Option.bind_some, Uu]
  cases hasB env sz t y with
  | false => rfl
  | true =>
   cases decide (0 ≤ bW x y) with
   | true => rfl
   | false =>
    simp only [cond_false, Bool.not_false, Bool.true_and, Bool.not_true]
    rw [show ((pre ++ [x]).length : Int) + 1 = ((pre ++ [x] ++ [y]).length : Int) by simp only [List.length_append, List.length_singleton]; omega]
    exact h2
theorem ade (env : Env) (sz : List Int) (ty t : Ty) (v : Val) (ht : ty.kids = [t]) (H : ∀ u, dX u → Ev (fun n => kS n env sz u t) (hasB env sz t u)) (hv : ∀ u ∈ v.kids, dX u) : Ev (fun n => kJ n (fun p0 p1 p2 p3 => kS n p0 p1 p2 p3) env sz v ty n 0) (cond ((v.kids.all fun u => hasB env sz t u) && y7 v.kids) (.nx ()) (.rt false)) := by
 cases hks : v.kids with
 | nil =>
  refine ⟨1, fun n hn => ?_⟩
  obtain ⟨j, rfl⟩ : ∃ j, n = j + 1 := ⟨n - 1, by omega⟩
  show kJ (j + 1) _ env sz v ty (j + 1) 0 = _
  unfold kJ
  rw [decide_eq_false (by rw [hks]; simp)]
  rfl
 | cons x xs =>
  obtain ⟨N1, h1⟩ := H x (hv x (by rw [hks]; simp))
  obtain ⟨N2, h2⟩ := O9 env sz ty t v ht H hv xs [] x (by rw [hks]; rfl)
  refine ⟨N1 + N2 + xs.length + 3, fun n hn => ?_⟩
  obtain ⟨j, rfl⟩ : ∃ j, n = j + 1 := ⟨n - 1, by omega⟩
  have h1 : kS (j + 1) env sz x t = _ := h1 (j + 1) (by omega)
  have h2 := h2 (j + 1) (by omega) j (by omega)
  show kJ (j + 1) _ env sz v ty (j + 1) 0 = _
  unfold kJ
  rw [decide_eq_true (by rw [hks, List.length_cons]; omega), ht, hks]
  simp only [cond_true, show idx (x :: xs) 0 = some x from rfl, show idx [t] 0 = some t from rfl, Option.bind_some, show decide ((0 : Int) < 0) = false from rfl, cond_false]
  rw [h1]
  simp only [Option.bind_some, List.all_cons]
  have er := XU (hasB env sz t) xs x
  cases hasB env sz t x with
  | false => rfl
  | true =>
   simp only [Bool.not_true, cond_false, Option.bind_some, Bool.true_and]
   rw [← er]
   exact h2
theorem NQ (env : Env) (sz : List Int) (hl : sz.length = env.carriers.length) : ∀ {t : Ty}, Shp t → (bY t).all (bR env) = true → ∀ v, dX v → Ev (fun n => kS n env sz v t) (hasB env sz t v) := by
 intro t h
 induction h with
 | int =>
  intro _ v _
  refine Ev.succ ?_
  show Ev (fun n => gU n _ env sz v (.mk 1 [] [])) _
  unfold gU
  refine Ev.pos rfl ?_
  refine Ev.bind (a := KQ v) ?_ (Ev.ret _)
  unfold KQ
  cases v.kind == 1 <;> cases decide ((-1000000000) ≤ v.n) <;> cases decide (v.n ≤ 1000000000) <;> cases v.name == [] <;> cases (v.kids.length : Int) == 0 <;> exact Ev.ret _
 | bool =>
  intro _ v _
  refine Ev.succ ?_
  show Ev (fun n => gU n _ env sz v (.mk 2 [] [])) _
  unfold gU
  refine Ev.neg rfl ?_
  refine Ev.pos rfl ?_
  refine Ev.bind (a := KR v) ?_ (Ev.ret _)
  unfold KR
  cases v.kind == 2 <;> cases v.n == 0 <;> cases v.n == 1 <;> cases v.name == [] <;> cases (v.kids.length : Int) == 0 <;> exact Ev.ret _
 | car nm =>
  intro hc v _
  have hc : bR env nm = true := by simpa [bY] using hc
  obtain ⟨g1, g2⟩ := Xq hl hc
  refine Ev.succ ?_
  show Ev (fun n => gU n _ env sz v (.mk 3 nm [])) _
  unfold gU
  refine Ev.neg rfl ?_
  refine Ev.neg rfl ?_
  refine Ev.pos rfl ?_
  refine Ev.bind (a := J3 env sz nm v) ?_ (Ev.ret _)
  simp only [Ty.name]
  unfold J3
  cases v.kind == 3 with
  | false => exact Ev.ret _
  | true =>
   cases v.name == nm with
   | false => exact Ev.ret _
   | true =>
    cases (v.kids.length : Int) == 0 with
    | false => exact Ev.ret _
    | true =>
     cases decide (0 ≤ v.n) with
     | false => exact Ev.ret _
     | true =>
      simp only [cond_true, Bool.true_and]
      refine Ev.bind (sZ env nm) ?_
      rw [g2]
      exact Ev.ret _
 | @pair a b ha hb iha ihb =>
  intro hc v hv
  simp only [bY, iG, List.append_nil, show ((4 : Int) == 3) = false from rfl, cond_false, List.all_append, Bool.and_eq_true] at hc
  refine Ev.succ ?_
  show Ev (fun n => gU n _ env sz v (.mk 4 [] [a, b])) _
  unfold gU
  refine Ev.neg rfl ?_
  refine Ev.neg rfl ?_
  refine Ev.neg rfl ?_
  refine Ev.pos rfl ?_
  refine Ev.bind (a := hasB env sz (.mk 4 [] [a, b]) v) ?_ (Ev.ret _)
  simp only [hasB, show ((4 : Int) == 1) = false from rfl, show ((4 : Int) == 2) = false from rfl, show ((4 : Int) == 3) = false from rfl, show ((4 : Int) == 4) = true from rfl, cond_false, cond_true, Ty.kids]
  cases v.kind == 4 with
  | false => exact Ev.ret _
  | true =>
   cases v.n == 0 with
   | false => exact Ev.ret _
   | true =>
    cases v.name == [] with
    | false => exact Ev.ret _
    | true =>
     cases h2 : (v.kids.length : Int) == 2 with
     | false => exact Ev.ret _
     | true =>
      simp only [cond_true, Bool.true_and]
      have hv := hv.kids.2
      obtain ⟨k, n, s, ks⟩ := v
      simp only [Val.kids, beq_iff_eq] at h2 hv
      match ks, h2, hv with
      | [x, y], _, hv =>
       simp only [Val.kids, show idx [x, y] 0 = some x from rfl, show idx [x, y] 1 = some y from rfl, show idx [a, b] 0 = some a from rfl, show idx [a, b] 1 = some b from rfl, Option.bind_some, EC]
       refine Ev.bind (iha hc.1 x (hv x (by simp))) ?_
       cases hasB env sz a x with
       | false => exact Ev.ret _
       | true =>
        simp only [cond_true, Bool.true_and, Bool.and_true]
        exact Ev.bind (ihb hc.2 y (hv y (by simp))) (Ev.ret _)
 | @set a ha iha =>
  intro hc v hv
  simp only [bY, iG, List.append_nil, show ((5 : Int) == 3) = false from rfl, cond_false] at hc
  have H := iha hc
  refine Ev.succ ?_
  show Ev (fun n => gU n _ env sz v (.mk 5 [] [a])) _
  unfold gU
  refine Ev.neg rfl ?_
  refine Ev.neg rfl ?_
  refine Ev.neg rfl ?_
  refine Ev.neg rfl ?_
  simp only [hasB, show ((5 : Int) == 1) = false from rfl, show ((5 : Int) == 2) = false from rfl, show ((5 : Int) == 3) = false from rfl, show ((5 : Int) == 4) = false from rfl, cond_false]
  have e1 : (v.kind != 5) = !(v.kind == 5) := rfl
  have e2 : (v.n != 0) = !(v.n == 0) := rfl
  rw [e1, e2]
  cases v.kind == 5 with
  | false => refine Ev.bind (a := true) (Ev.ret _) ?_; exact Ev.ret _
  | true =>
   cases v.n == 0 with
   | false => refine Ev.bind (a := true) (Ev.ret _) ?_; exact Ev.ret _
   | true =>
    cases v.name == [] with
    | false => refine Ev.bind (a := true) (Ev.ret _) ?_; exact Ev.ret _
    | true =>
     cases decide (256 < (v.kids.length : Int)) with
     | true => refine Ev.bind (a := true) (Ev.ret _) ?_; exact Ev.ret _
     | false =>
      refine Ev.bind (a := false) (Ev.ret _) ?_
      simp only [Bool.not_false, cond_false, Bool.true_and, Sm]
      refine Ev.bind (ade env sz (.mk 5 [] [a]) a v rfl H hv.kids.2) ?_
      cases ((v.kids.all fun u => hasB env sz a u) && y7 v.kids) <;> exact Ev.ret _
theorem uP {env : Env} (h : bn env = true) : ∀ d ∈ env.names, eH d.ty = true ∧ (bY d.ty).all (bR env) = true := by
 intro d hd
 simp only [bn, Bool.and_eq_true] at h
 have := List.all_eq_true.1 h.2.2.1 d hd
 simp only [tO, Bool.and_eq_true] at this
 exact ⟨this.2.1.1, this.2.2⟩
def oG (w : S_api_World) : Bool := (bn w.env && (jK w.env w.sizes && !((w.values.length : Int) != (w.env.names.length : Int)))) && !((w.env.names.zip w.values).any fun q => !(hasB w.env w.sizes q.1.ty q.2))
theorem Xa {α β : Type} (f : α → β → Bool) : ∀ (l : List α) (m : List β), (l.zip m).any (fun q => f q.1 q.2) = (m.zip l).any fun q => f q.2 q.1
 | [], m => by cases m <;> rfl
 | a :: l, [] => rfl
 | a :: l, b :: m => by
  simp only [List.zip_cons_cons, List.any_cons, Xa f l m]
theorem yX (w : S_api_World) (hs : ∀ d ∈ w.env.names, d.name.length ≤ 9223372036854775807) : Ev (fun n => jQ n w) (oG w) := by
 unfold jQ oG
 refine Ev.bind (a := !(bn w.env && (jK w.env w.sizes && !((w.values.length : Int) != (w.env.names.length : Int))))) ?_ ?_
 ·refine Ev.bind (fE w.env hs) ?_
  cases bn w.env with
  | false => exact Ev.ret _
  | true =>
   refine Ev.bind (BM w.env w.sizes) ?_
   cases jK w.env w.sizes with
   | false => exact Ev.ret _
   | true =>
    simp only [Bool.not_true, cond_false, Bool.true_and, Bool.not_not]
    exact Ev.ret _
 ·cases hb : (bn w.env && (jK w.env w.sizes && !((w.values.length : Int) != (w.env.names.length : Int)))) with
  | false => exact Ev.ret _
  | true =>
   simp only [Bool.and_eq_true, Bool.not_eq_true', bne_eq_false_iff_eq] at hb
   obtain ⟨h1, h2, h3⟩ := hb
   simp only [Bool.not_true, cond_false, Bool.true_and]
   have hd := uP h1
   refine Ev.bind (yQ w.env.names w.values (by omega) (fun n k i => lX n w k i) (fun n d v => (fu n w.env w.sizes v d.ty).bind fun b => some (!b)) (fun d v => !(hasB w.env w.sizes d.ty v)) false (fun n k i => by
    show cond _ _ _ = _
    simp only [Option.bind_assoc, Option.bind_some]) (fun d hm v => Ev.bind (UF w.env w.sizes (qx h2) (mV (hd d hm).1) (hd d hm).2 v) (Ev.ret _))) ?_
   cases ((w.env.names.zip w.values).any fun q => !(hasB w.env w.sizes q.1.ty q.2)) <;> exact Ev.ret _
theorem xE (w : S_api_World) (hv : ∀ v ∈ w.values, dX v) : Ev (fun n => kE n w) (oG w) := by
 unfold kE oG
 refine Ev.bind (a := !(bn w.env && (jK w.env w.sizes && !((w.values.length : Int) != (w.env.names.length : Int))))) ?_ ?_
 ·refine Ev.bind (jG w.env) ?_
  cases bn w.env with
  | false => exact Ev.ret _
  | true =>
   refine Ev.bind (Oq w.env w.sizes) ?_
   cases jK w.env w.sizes with
   | false => exact Ev.ret _
   | true =>
    simp only [Bool.not_true, cond_false, Bool.true_and, Bool.not_not]
    exact Ev.ret _
 ·cases hb : (bn w.env && (jK w.env w.sizes && !((w.values.length : Int) != (w.env.names.length : Int)))) with
  | false => exact Ev.ret _
  | true =>
   simp only [Bool.and_eq_true, Bool.not_eq_true', bne_eq_false_iff_eq] at hb
   obtain ⟨h1, h2, h3⟩ := hb
   simp only [Bool.not_true, cond_false, Bool.true_and]
   have hd := uP h1
   have hloop := iH (w.values.zip w.env.names) (fun n k i => lg n w k i) (fun n q => (kS n w.env w.sizes q.1 q.2.ty).bind fun b => some (!b)) (fun q => !(hasB w.env w.sizes q.2.ty q.1)) false (fun n k i => by
    show cond _ _ _ = _
    rw [← XK w.values w.env.names i fun x y => ((kS n w.env w.sizes x y.ty).bind fun b => some (!b)).bind fun b => cond b (some (.rt false)) (lg n w k (i + 1))]
    rw [List.length_zip, show min w.values.length w.env.names.length = w.values.length by omega]
    simp only [Option.bind_assoc, Option.bind_some]) (fun q hq => Ev.bind (NQ w.env w.sizes (qx h2) (mV (hd q.2 (List.of_mem_zip hq).2).1) (hd q.2 (List.of_mem_zip hq).2).2 q.1 (hv q.1 (List.of_mem_zip hq).1)) (Ev.ret _))
   rw [Xa (fun (d : Decl) v => !(hasB w.env w.sizes d.ty v))]
   refine Ev.bind hloop ?_
   cases ((w.values.zip w.env.names).any fun q => !(hasB w.env w.sizes q.2.ty q.1)) <;> exact Ev.ret _
mutual
def eD : Val → Prop
 | .mk _ _ _ ks => ks.length * 56 ≤ 140737488355328 ∧ uI ks
def uI : List Val → Prop
 | [] => True
 | v :: vs => eD v ∧ uI vs
end
theorem Ld : ∀ {vs : List Val}, uI vs → ∀ v ∈ vs, eD v
 | [], _, _, h => by cases h
 | v :: vs, h, u, hu => by
  simp only [uI] at h
  rcases List.mem_cons.1 hu with rfl | hu
  ·exact h.1
  ·exact Ld h.2 u hu
theorem eD.kids {v : Val} (h : eD v) : v.kids.length * 56 ≤ 140737488355328 ∧ ∀ u ∈ v.kids, eD u := by
 cases v
 simp only [eD] at h
 exact ⟨h.1, Ld h.2⟩
theorem BL {l ys : List Val} (h : (l.length + ys.length) * 56 ≤ 140737488355328) : app 56 l ys = some (l ++ ys) := by
 unfold app
 rw [if_pos ⟨h, by omega⟩]
theorem Je : ∀ (asx : List Val), (∀ a ∈ asx, Ev (fun n => kC n a) a) → ∀ (pre : List Val), (pre.length + asx.length) * 56 ≤ 140737488355328 → ∃ N, ∀ n, N ≤ n → ∀ k, asx.length + 1 ≤ k → nK n (fun p0 => ng n p0) (fun p0 => kC n p0) (pre ++ asx) k (pre, (pre.length : Int)) = some (.nx (pre ++ asx))
 | [], _, pre, _ => by
  refine ⟨0, fun n _ k hk => ?_⟩
  obtain ⟨j, rfl⟩ : ∃ j, k = j + 1 := ⟨k - 1, by simp at hk; omega⟩
  unfold nK
  rw [decide_eq_false (by simp)]
  simp
 | a :: asx, H, pre, hb => by
  obtain ⟨N1, h1⟩ := H a (by simp)
  obtain ⟨N2, h2⟩ := Je asx (fun x hx => H x (by simp [hx])) (pre ++ [a]) (by simp at hb ⊢; omega)
  refine ⟨N1 + N2, fun n hn k hk => ?_⟩
  obtain ⟨j, rfl⟩ : ∃ j, k = j + 1 := ⟨k - 1, by simp at hk; omega⟩
  have h1 : kC n a = _ := h1 n (by omega)
  have h2 := h2 n (by omega) j (by simp at hk; omega)
  unfold nK
  rw [decide_eq_true (by simp <;> omega), iy]
  simp only [cond_true, Option.bind_some]
  rw [h1]
  simp only [Option.bind_some]
  rw [BL (by simp at hb ⊢; omega)]
  simp only [Option.bind_some]
  rw [show (pre.length : Int) + 1 = ((pre ++ [a]).length : Int) by simp]
  simpa using h2
theorem Li (l : List Val) (H : ∀ a ∈ l, Ev (fun n => kC n a) a) (hl : l.length * 56 ≤ 140737488355328) : Ev (fun n => ng n l) l := by
 obtain ⟨N, h⟩ := Je l H [] (by simpa using hl)
 refine Ev.succ ⟨N + l.length + 1, fun n hn => ?_⟩
 have := h n (by omega) n (by omega)
 show pF n _ _ l = _
 unfold pF
 simp only [List.nil_append, List.length_nil] at this
 rw [show ((0 : Nat) : Int) = 0 from rfl] at this
 rw [this]
 rfl
theorem Il (v : Val) (hv : eD v) : Ev (fun n => kC n v) v := by
 induction v using Val.ind with
 | h k n s ks ih =>
  obtain ⟨h1, h2⟩ := hv.kids
  simp only [Val.kids] at h1 h2
  refine Ev.succ ?_
  show Ev (fun m => sH m _ _ (.mk k n s ks)) _
  unfold sH
  exact Ev.bind (Li ks (fun a ha => ih a ha (h2 a ha)) h1) (Ev.ret _)
theorem Pt {α : Type} : ∀ (pre : List α) (x : α) (suf : List α), (pre ++ x :: suf).set pre.length x = pre ++ x :: suf
 | [], _, _ => rfl
 | p :: pre, x, suf => by simp
theorem JA (v : Val) : ∀ (asx pre : List Val), v.kids = pre ++ asx → (∀ a ∈ asx, Ev (fun n => gu n a) a) → ∃ N, ∀ n, N ≤ n → ∀ k, asx.length + 1 ≤ k → kX n (fun p0 => gu n p0) v k (pre ++ asx, (pre.length : Int)) = some (.nx (pre ++ asx))
 | [], pre, hp, _ => by
  refine ⟨0, fun n _ k hk => ?_⟩
  obtain ⟨j, rfl⟩ : ∃ j, k = j + 1 := ⟨k - 1, by simp at hk; omega⟩
  unfold kX
  rw [decide_eq_false (by rw [hp]; simp)]
  rfl
 | a :: asx, pre, hp, H => by
  obtain ⟨N1, h1⟩ := H a (by simp)
  obtain ⟨N2, h2⟩ := JA v asx (pre ++ [a]) (by simp [hp]) (fun x hx => H x (by simp [hx]))
  refine ⟨N1 + N2, fun n hn k hk => ?_⟩
  obtain ⟨j, rfl⟩ : ∃ j, k = j + 1 := ⟨k - 1, by simp at hk; omega⟩
  have h1 : gu n a = _ := h1 n (by omega)
  have h2 := h2 n (by omega) j (by simp at hk; omega)
  unfold kX
  rw [decide_eq_true (by rw [hp]; simp; omega)]
  simp only [cond_true, iy, Option.bind_some]
  rw [h1]
  simp only [Option.bind_some]
  have e : upd (pre ++ a :: asx) (pre.length : Int) a = pre ++ a :: asx := by
   unfold upd
   rw [Int.toNat_natCast, Pt]
  rw [e, show (pre.length : Int) + 1 = ((pre ++ [a]).length : Int) by simp]
  simpa using h2
theorem Bg (v : Val) (hv : eD v) : Ev (fun n => gu n v) v := by
 induction v using Val.ind with
 | h k n s ks ih =>
  obtain ⟨h1, h2⟩ := hv.kids
  simp only [Val.kids] at h1 h2
  obtain ⟨N, h⟩ := JA (.mk k n s ks) ks [] rfl (fun a ha => ih a ha (h2 a ha))
  refine Ev.succ ⟨N + ks.length + 1, fun m hm => ?_⟩
  have := h m (by omega) m (by omega)
  show nN m _ (.mk k n s ks) = _
  unfold nN sM mG
  simp only [Val.kids]
  rw [BL (by simpa using h1)]
  simp only [Option.bind_some, List.nil_append, List.length_nil] at this ⊢
  rw [show ((0 : Nat) : Int) = 0 from rfl] at this
  rw [this]
  rfl
theorem Iw (x y : Int) : (lex x y == 0) = ((x == 0) && (y == 0)) := by
 rw [Bool.eq_iff_iff]
 simp [AO]
theorem PN : ∀ (asx : List Val), (∀ a ∈ asx, ∀ b, Ev (fun n => dN n a b) (bW a b == 0)) → ∀ (bs pa pb : List Val), pa.length = pb.length → asx.length = bs.length → ∃ N, ∀ n, N ≤ n → ∀ k, asx.length + 1 ≤ k → jv n (fun p0 p1 => dN n p0 p1) (fun p0 p1 => iI n p0 p1) (pa ++ asx) (pb ++ bs) k (pa.length : Int) = some (cond (dH asx bs == 0) (.nx ()) (.rt false))
 | [], _, bs, pa, pb, hp, hl => by
  have : bs = [] := List.length_eq_zero_iff.1 (by simpa using hl.symm)
  subst this
  refine ⟨0, fun n _ k hk => ?_⟩
  obtain ⟨j, rfl⟩ : ∃ j, k = j + 1 := ⟨k - 1, by simp at hk; omega⟩
  unfold jv
  rw [decide_eq_false (by simp)]
  rfl
 | a :: asx, H, [], pa, pb, hp, hl => by simp at hl
 | a :: asx, H, b :: bs, pa, pb, hp, hl => by
  obtain ⟨N1, h1⟩ := H a (by simp) b
  obtain ⟨N2, h2⟩ := PN asx (fun x hx => H x (by simp [hx])) bs (pa ++ [a]) (pb ++ [b]) (by simp [hp]) (by simpa using hl)
  refine ⟨N1 + N2, fun n hn k hk => ?_⟩
  obtain ⟨j, rfl⟩ : ∃ j, k = j + 1 := ⟨k - 1, by simp at hk; omega⟩
  have h1 : dN n a b = _ := h1 n (by omega)
  have h2 := h2 n (by omega) j (by simp at hk; omega)
  unfold jv
  rw [decide_eq_true (by simp <;> omega), iy]
  simp only [cond_true, Option.bind_some]
  rw [show (pa.length : Int) = (pb.length : Int) by rw [hp], iy]
  simp only [Option.bind_some]
  rw [h1]
  simp only [Option.bind_some, tV, Iw]
  cases bW a b == 0 with
  | false => rfl
  | true =>
   simp only [Bool.not_true, cond_false, Bool.true_and]
   rw [show (pb.length : Int) + 1 = ((pa ++ [a]).length : Int) by simp [hp]]
   simpa using h2
theorem xD (l m : List Val) (H : ∀ a ∈ l, ∀ b, Ev (fun n => dN n a b) (bW a b == 0)) : Ev (fun n => iI n l m) (dH l m == 0) := by
 refine Ev.succ ?_
 show Ev (fun n => lV n _ _ l m) _
 unfold lV
 by_cases hl : l.length = m.length
 ·obtain ⟨N, h⟩ := PN l H m [] [] rfl hl
  refine ⟨N + l.length + 1, fun n hn => ?_⟩
  have := h n (by omega) n (by omega)
  have e : ((l.length : Int) != (m.length : Int)) = false := by simp [hl]
  rw [e]
  simp only [cond_false, List.nil_append, List.length_nil] at this ⊢
  rw [show ((0 : Nat) : Int) = 0 from rfl] at this
  rw [this]
  cases dH l m == 0 <;> rfl
 ·have e : ((l.length : Int) != (m.length : Int)) = true := by simp <;> omega
  have e2 : (dH l m == 0) = false := by
   cases h : dH l m == 0 with
   | false => rfl
   | true => exact absurd (congrArg List.length ((zC l m).1 (by simpa using h))) hl
  rw [e, e2]
  exact Ev.ret _
theorem wO (a b : Val) : Ev (fun n => dN n a b) (bW a b == 0) := by
 revert b
 induction a using Val.ind with
 | h k n s ks ih =>
  intro b
  obtain ⟨k', n', s', ks'⟩ := b
  refine Ev.succ ?_
  show Ev (fun m => mq m _ _ (.mk k n s ks) (.mk k' n' s' ks')) _
  unfold mq
  simp only [Val.kind, Val.n, Val.name, Val.kids]
  have e1 : (iL k k' == 0) = (k == k') := by rw [Bool.eq_iff_iff]; simp [vE]
  have e2 : (iL n n' == 0) = (n == n') := by rw [Bool.eq_iff_iff]; simp [vE]
  have e3 : (Lib.compareBytes s s' == 0) = (s == s') := by rw [Bool.eq_iff_iff]; simp [Iz]
  rw [zN, Iw, Iw, Iw, e1, e2, e3]
  cases k == k' with
  | false => exact Ev.bind (Ev.ret _) (Ev.ret _)
  | true =>
   cases n == n' with
   | false => exact Ev.bind (Ev.ret _) (Ev.ret _)
   | true =>
    cases s == s' with
    | false => exact Ev.bind (Ev.ret _) (Ev.ret _)
    | true => exact Ev.bind (Ev.bind (xD ks ks' ih) (Ev.ret _)) (Ev.ret _)
theorem tN (a : Val) : Ev (fun n => dN n a a) true := by
 have := wO a a
 rwa [(kF a a).2 rfl] at this
theorem xQ : Ev (fun n => (nI n).bind fun x => some x) true := Ev.bind (a := true) (Ev.ret _) (Ev.ret _)
theorem NV {α ρ : Type} (l : List α) (L : Nat → Nat → List α × Int → Option (LR (List α) ρ)) (step : Nat → α → Option α)
  (hL : ∀ n k s i, L n (k + 1) (s, i) = cond (decide (i < (l.length : Int))) ((idx s i).bind fun x => (step n x).bind fun y => L n k (upd s i y, i + 1)) (some (.nx s)))
  (hs : ∀ x ∈ l, Ev (fun n => step n x) x) : Ev (fun n => L n n (l, 0)) (.nx l) := by
 have key : ∀ (suf pre : List α), l = pre ++ suf → ∃ N, ∀ n, N ≤ n → ∀ k, suf.length + 1 ≤ k → L n k (pre ++ suf, (pre.length : Int)) = some (.nx (pre ++ suf)) := by
  intro suf
  induction suf with
  | nil =>
   intro pre hp
   refine ⟨0, fun n _ k hk => ?_⟩
   obtain ⟨j, rfl⟩ : ∃ j, k = j + 1 := ⟨k - 1, by simp at hk; omega⟩
   rw [hL, decide_eq_false (by rw [hp]; simp)]
   rfl
  | cons a suf ih =>
   intro pre hp
   obtain ⟨N1, h1⟩ := hs a (by rw [hp]; simp)
   obtain ⟨N2, h2⟩ := ih (pre ++ [a]) (by rw [hp]; simp)
   refine ⟨N1 + N2, fun n hn k hk => ?_⟩
   obtain ⟨j, rfl⟩ : ∃ j, k = j + 1 := ⟨k - 1, by simp at hk; omega⟩
   have h1 : step n a = _ := h1 n (by omega)
   have h2 := h2 n (by omega) j (by simp at hk; omega)
   rw [hL, decide_eq_true (by rw [hp]; simp; omega)]
   simp only [cond_true, iy, Option.bind_some, h1]
   have e : upd (pre ++ a :: suf) (pre.length : Int) a = pre ++ a :: suf := by
    unfold upd
    rw [Int.toNat_natCast, Pt]
   rw [e, show (pre.length : Int) + 1 = ((pre ++ [a]).length : Int) by simp]
   simpa using h2
 obtain ⟨N, h⟩ := key l [] rfl
 exact ⟨N + l.length + 1, fun n hn => h n (by omega) n (by omega)⟩
theorem Vi : ∀ t : Ty, zi t = true → Ev (fun n => gJ n t) t := Ty.ind fun k nm ks ih hok => by
 refine Ev.succ ?_
 show Ev (fun n => lW n (fun p0 => gJ n p0) (.mk k nm ks)) _
 unfold lW uE vg
 simp only [zi, Bool.and_eq_true, decide_eq_true_eq] at hok
 simp only [Ty.kind, Ty.name, Ty.kids]
 rw [eX (by simp only [List.length_nil]; omega) (by omega)]
 refine Ev.bind (Ev.ret _) (Ev.bind (Ev.ret _) ?_)
 have h := NV ks (fun n k' s => nE n (fun p0 => gJ n p0) (.mk k nm ks) k' s) (fun n x => gJ n x)
  (fun n k' s i => by
   show cond _ _ _ = _
   congr 1
   show (idx s i).bind _ = _
   cases idx s i with
   | none => rfl
   | some x => simp only [Option.bind_some])
  (fun x hx => ih x hx (xG hok.2 x hx))
 exact Ev.bind h (Ev.ret _)
theorem VP {env : Env} (h : bn env = true) : Ev (fun n => rU n env) env := by
 obtain ⟨hc8, hn64, _, _, _⟩ := bZ h
 unfold rU qF ru uo uY
 rw [eX (by simp only [List.length_nil]; omega) (by omega), eX (by simp only [List.length_nil]; omega) (by omega)]
 refine Ev.bind (Ev.ret _) (Ev.bind (Ev.ret _) (Ev.bind (Ev.ret _) (Ev.bind (Ev.ret _) ?_)))
 have h1 := NV env.carriers (fun n k s => nZ n env k s) (fun n x => (slices_Clone_string n x.elems).bind fun x9 => (ko n x9).bind fun x10 => some (Carrier.mk x.name x10))
  (fun n k s i => by
   show cond _ _ _ = _
   congr 1
   show (idx s i).bind _ = _
   cases idx s i with
   | none => rfl
   | some x => simp only [Option.bind_some, Option.bind_assoc])
  (fun x hx => by
   have hx8 := (sI h hx).2.1
   unfold slices_Clone_string ko
   rw [eX (by simp only [List.length_nil]; omega) (by omega)]
   refine Ev.bind (Ev.ret _) ?_
   simp only [List.nil_append]
   rw [Nat.ble_eq_true_of_le (by omega)]
   exact Ev.ret _)
 have h2 := NV env.names (fun n k s => og n env k s) (fun n x => (gJ n x.ty).bind fun x6 => some (Decl.mk x.name x6))
  (fun n k s i => by
   show cond _ _ _ = _
   congr 1
   show (idx s i).bind _ = _
   cases idx s i with
   | none => rfl
   | some x => simp only [Option.bind_some, Option.bind_assoc])
  (fun x hx => Ev.bind (Vi x.ty (rO (zo h hx).2.1).1) (Ev.ret _))
 exact Ev.bind h1 (Ev.bind h2 (Ev.ret _))
theorem EA {v : Val} (h : v.kids.length = 0) : eD v := by
 obtain ⟨k, n, s, ks⟩ := v
 have : ks = [] := List.length_eq_zero_iff.1 h
 subst this
 simp [eD, uI]
theorem LB : ∀ {vs : List Val}, (∀ v ∈ vs, eD v) → uI vs
 | [], _ => trivial
 | v :: vs, h => by
  simp only [uI]
  exact ⟨h v (by simp), LB fun u hu => h u (by simp [hu])⟩
theorem HV {env : Env} {sz : List Int} {t : Ty} (h : Shp t) : ∀ v, hasB env sz t v = true → eD v := by
 induction h with
 | int =>
  intro v hv
  have hv : KQ v = true := hv
  simp only [KQ, Bool.and_eq_true, beq_iff_eq] at hv
  exact EA (by omega)
 | bool =>
  intro v hv
  have hv : KR v = true := hv
  simp only [KR, Bool.and_eq_true, beq_iff_eq] at hv
  exact EA (by omega)
 | car nm =>
  intro v hv
  have hv : J3 env sz nm v = true := hv
  simp only [J3, Bool.and_eq_true, beq_iff_eq] at hv
  exact EA (by omega)
 | @pair a b _ _ iha ihb =>
  intro v hv
  have hv : (v.kind == 4 && (v.n == 0 && (v.name == [] && ((v.kids.length : Int) == 2 && EC env sz [a, b] v.kids)))) = true := by rw [hasB] at hv; exact hv
  simp only [Bool.and_eq_true, beq_iff_eq] at hv
  obtain ⟨_, _, _, hl, hz⟩ := hv
  obtain ⟨k, n, s, ks⟩ := v
  simp only [Val.kids] at hl hz
  match ks, hl with
  | [x, y], _ =>
   simp only [EC, Bool.and_eq_true] at hz
   simp only [eD, uI]
   exact ⟨by simp, iha x hz.1, ihb y hz.2.1, trivial⟩
 | @set a _ iha =>
  intro v hv
  have hv : ((v.kind == 5 && (v.n == 0 && (v.name == [] && !(decide (256 < (v.kids.length : Int)))))) && (Sm env sz [a] v.kids && y7 v.kids)) = true := by rw [hasB] at hv; exact hv
  simp only [Bool.and_eq_true, beq_iff_eq, Bool.not_eq_true', decide_eq_false_iff_not, Sm, List.all_eq_true] at hv
  obtain ⟨⟨_, _, _, hl⟩, hz, _⟩ := hv
  obtain ⟨k, n, s, ks⟩ := v
  simp only [Val.kids] at hl hz
  simp only [eD]
  exact ⟨by omega, LB fun u hu => iha u (hz u hu)⟩
theorem sF (w : S_api_World) : oG w = true ↔ bn w.env = true ∧ jK w.env w.sizes = true ∧ w.values.length = w.env.names.length ∧ ∀ (j : Nat) (d : Decl) (v : Val), w.env.names[j]? = some d → w.values[j]? = some v → hasB w.env w.sizes d.ty v = true := by
 unfold oG
 simp only [Bool.and_eq_true, Bool.not_eq_true', bne_eq_false_iff_eq, List.any_eq_false, Bool.not_eq_false']
 constructor
 ·rintro ⟨⟨h1, h2, h3⟩, h4⟩
  refine ⟨h1, h2, by omega, fun j d v hd hv => ?_⟩
  have := h4 (d, v) (List.mem_iff_getElem?.2 ⟨j, List.getElem?_zip_eq_some.2 ⟨hd, hv⟩⟩)
  simpa using this
 ·rintro ⟨h1, h2, h3, h4⟩
  refine ⟨⟨h1, h2, by omega⟩, fun q hq => ?_⟩
  obtain ⟨j, hj⟩ := List.mem_iff_getElem?.1 hq
  have hj := List.getElem?_zip_eq_some.1 hj
  have := h4 j q.1 q.2 hj.1 hj.2
  simpa using this
theorem Er {w : S_api_World} (h : oG w = true) : ∀ v ∈ w.values, eD v := by
 obtain ⟨h1, h2, h3, h4⟩ := (sF w).1 h
 intro v hv
 obtain ⟨j, hj⟩ := List.mem_iff_getElem?.1 hv
 have hlt : j < w.env.names.length := by
  have := (List.getElem?_eq_some_iff.1 hj).1
  omega
 have hd : w.env.names[j]? = some w.env.names[j] := List.getElem?_eq_getElem hlt
 exact HV (mV (uP h1 _ (List.getElem_mem hlt)).1) v (h4 j _ v hd hj)
theorem Tk {w : S_api_World} (h : oG w = true) : Ev (fun n => nR n w) (w.env.carriers, w.env.names, w.sizes, w.values) := by
 have hf := Er h
 obtain ⟨h1, h2, h3, h4⟩ := (sF w).1 h
 obtain ⟨hc8, hn64, _, _, _⟩ := bZ h1
 have hsz := qx h2
 unfold nR slices_Clone_int oU mG
 refine Ev.bind (VP h1) ?_
 rw [eX (by simp only [List.length_nil]; omega) (by omega)]
 refine Ev.bind (Ev.ret _) ?_
 simp only [List.nil_append]
 rw [Nat.ble_eq_true_of_le (by omega)]
 refine Ev.bind (Ev.ret _) ?_
 have hl := iD (ρ := (List Carrier) × (List Decl) × (List Int) × (List Val)) w.values (fun n k i s => kU n w k (i, s)) (fun n x s => (gu n x).bind fun x6 => app 56 s [x6]) (fun x s => s ++ [x]) (fun s => s) (fun suf s => s.length + suf.length ≤ 64)
  (fun n k i s => by
   show cond _ _ _ = _
   congr 1
   show (idx w.values i).bind _ = _
   congr 1
   funext x
   simp only [Option.bind_assoc])
  (fun x suf s hx hs => by
   simp only [List.length_cons] at hs
   refine ⟨Ev.bind (Bg x (hf x hx)) ?_, ?_⟩
   ·rw [eX (by simp only [List.length_singleton]; omega) (by omega)]; exact Ev.ret _
   ·simp only [List.length_append, List.length_singleton]; omega) (s0 := ([] : List Val)) (by simp only [List.length_nil]; omega)
 rw [mP, List.nil_append] at hl
 exact Ev.bind hl (Ev.bind (Ev.ret _) (Ev.ret _))
theorem Qf {w : S_api_World} (h : oG w = true) : Ev (fun n => pV n w) (w.env.carriers, w.env.names, w.sizes, w.values) := by
 have hf := Er h
 obtain ⟨h1, h2, h3, h4⟩ := (sF w).1 h
 obtain ⟨hc8, hn64, _, _, _⟩ := bZ h1
 have hsz := qx h2
 unfold pV yh
 refine Ev.bind (zx h1) ?_
 rw [eX (by simp only [List.length_nil]; omega) (by omega)]
 refine Ev.bind (Ev.ret _) ?_
 have hl := iD (ρ := List Val) w.values (fun n k i s => ql n w.values k (s, i)) (fun n x s => (kC n x).bind fun x6 => app 56 s [x6]) (fun x s => s ++ [x]) (fun s => s) (fun suf s => s.length + suf.length ≤ 64)
  (fun n k i s => by
   show cond _ _ _ = _
   congr 1
   show (idx w.values i).bind _ = _
   congr 1
   funext x
   simp only [Option.bind_assoc])
  (fun x suf s hx hs => by
   simp only [List.length_cons] at hs
   refine ⟨Ev.bind (Il x (hf x hx)) ?_, ?_⟩
   ·rw [eX (by simp only [List.length_singleton]; omega) (by omega)]; exact Ev.ret _
   ·simp only [List.length_append, List.length_singleton]; omega) (s0 := ([] : List Val)) (by simp only [List.length_nil]; omega)
 rw [mP, List.nil_append] at hl
 exact Ev.bind (Ev.bind hl (Ev.ret _)) (Ev.ret _)
theorem Kh {α : Type} {l : List α} {i : Int} {x : α} (h : idx l i = some x) : 0 ≤ i ∧ l[i.toNat]? = some x := by
 unfold idx at h
 split at h
 ·exact ⟨by assumption, h⟩
 ·cases h
def jk (w : S_api_World) (s : Str) : Int := gM (fun d => d.name == s) 0 w.env.names
theorem SS (w : S_api_World) (s : Str) : Ev (fun n => tq n w s) (jk w s) := by
 unfold tq jZ
 exact Ev.bind (nS w.env.names (fun n k i => eF n w.env.names s k i) (fun _ x => some (x.name == s)) (fun c => c.name == s) (fun n k i => rfl) (fun x _ => Ev.ret _)) (Ev.ret _)
theorem Hr {w : S_api_World} (h : oG w = true) (s : Str) (hp : ¬ jk w s < 0) : ∃ d v, idx w.env.names (jk w s) = some d ∧ idx w.values (jk w s) = some v ∧ hasB w.env w.sizes d.ty v = true ∧ d ∈ w.env.names ∧ v ∈ w.values ∧ (jk w s).toNat < w.values.length := by
 obtain ⟨h1, h2, h3, h4⟩ := (sF w).1 h
 rcases mZ (fun d : Decl => d.name == s) w.env.names [] with ⟨d, _, _, g3, g4⟩ | ⟨_, g2⟩
 ·simp only [List.length_nil, Int.natCast_zero, List.nil_append] at g3 g4
  have g4 : idx w.env.names (jk w s) = some d := g4
  have g3 : 0 ≤ jk w s := g3
  have hd := (Kh g4).2
  have hlt := (List.getElem?_eq_some_iff.1 hd).1
  have hv : w.values[(jk w s).toNat]? = some w.values[(jk w s).toNat] := List.getElem?_eq_getElem (by omega)
  refine ⟨d, _, g4, ?_, h4 _ d _ hd hv, List.mem_of_getElem? hd, List.mem_of_getElem? hv, by omega⟩
  unfold idx
  rw [if_pos g3]
  exact hv
 ·simp only [List.length_nil, Int.natCast_zero] at g2
  exact absurd (show jk w s < 0 by show gM _ 0 w.env.names < 0; rw [g2]; omega) hp
def aa3 : Val := .mk 0 0 [] []
def OL : S_api_World := .mk (Env.mk [] []) [] []
def F6 (w : S_api_World) (s : Str) : Val × Bool := cond (!(oG w)) (aa3, false) (cond (decide (jk w s < 0)) (aa3, false) (match idx w.values (jk w s) with
 | none => (aa3, false)
 | some v => (v, true)))
def setW (w : S_api_World) (s : Str) (v : Val) : S_api_World × Int := cond (!(oG w)) (OL, 1) (cond (decide (jk w s < 0)) (OL, 6) (match idx w.env.names (jk w s) with
 | none => (OL, 7)
 | some d => cond (!(hasB w.env w.sizes d.ty v)) (OL, 7) (⟨w.env, w.sizes, upd w.values (jk w s) v⟩, 0)))
theorem Ur (w : S_api_World) (s : Str) (hs : ∀ d ∈ w.env.names, d.name.length ≤ 9223372036854775807) : Ev (fun n => sU n w s) (F6 w s) := by
 unfold sU F6
 refine Ev.bind (yX w hs) ?_
 cases h : oG w with
 | false => exact Ev.ret _
 | true =>
  simp only [Bool.not_true, cond_false]
  refine Ev.bind (SS w s) ?_
  by_cases hp : jk w s < 0
  ·rw [decide_eq_true hp]; exact Ev.ret _
  ·obtain ⟨d, v, _, g2, _, _, g5, _⟩ := Hr h s hp
   rw [decide_eq_false hp, g2]
   exact Ev.bind (Bg v (Er h v g5)) (Ev.ret _)
theorem aav (w : S_api_World) (s : Str) (hv : ∀ v ∈ w.values, dX v) : Ev (fun n => zY n w s) (F6 w s) := by
 unfold zY F6
 refine Ev.bind (yt w.env s) ?_
 show Ev (fun n => ((((kE n w).bind fun (x4 : Bool) => (cond (!x4) (some true) (some (decide (jk w s < 0))))) : Option Bool).bind fun (s1 : Bool) => (cond s1 (some ((Val.mk 0 0 ([] : Str) ([])), false)) ((idx w.values (jk w s)).bind fun (x2 : Val) => ((kC n x2).bind fun (x3 : Val) => some (x3, true)))))) _
 refine Ev.bind (a := cond (!(oG w)) true (decide (jk w s < 0))) (Ev.bind (xE w hv) ?_) ?_
 ·cases oG w <;> exact Ev.ret _
 cases h : oG w with
 | false => exact Ev.ret _
 | true =>
  simp only [Bool.not_true, cond_false]
  by_cases hp : jk w s < 0
  ·rw [decide_eq_true hp]; exact Ev.ret _
  ·obtain ⟨d, v, _, g2, _, _, g5, _⟩ := Hr h s hp
   rw [decide_eq_false hp, g2]
   exact Ev.bind (Il v (Er h v g5)) (Ev.ret _)
theorem aas (w : S_api_World) (s : Str) (v : Val) (hs : ∀ d ∈ w.env.names, d.name.length ≤ 9223372036854775807) : Ev (fun n => xU n w s v) (setW w s v) := by
 unfold xU setW
 refine Ev.bind (yX w hs) ?_
 cases h : oG w with
 | false => exact Ev.ret _
 | true =>
  simp only [Bool.not_true, cond_false]
  refine Ev.bind (SS w s) ?_
  by_cases hp : jk w s < 0
  ·rw [decide_eq_true hp]; exact Ev.ret _
  ·obtain ⟨d, u, g1, g2, _, g4, g5, _⟩ := Hr h s hp
   obtain ⟨h1, h2, h3, h4⟩ := (sF w).1 h
   have hd := uP h1 d g4
   rw [decide_eq_false hp, g1]
   refine Ev.bind (UF w.env w.sizes (qx h2) (mV hd.1) hd.2 v) ?_
   show Ev _ (cond (!(hasB w.env w.sizes d.ty v)) (OL, 7) ((⟨w.env, w.sizes, upd w.values (jk w s) v⟩ : S_api_World), (0 : Int)))
   cases hb : hasB w.env w.sizes d.ty v with
   | false => exact Ev.ret _
   | true =>
    simp only [Bool.not_true, cond_false]
    refine Ev.bind (Tk h) (Ev.bind (Bg v (HV (mV hd.1) v hb)) ?_)
    show Ev (fun n => (idx w.values (jk w s)).bind _) _
    rw [g2]
    exact Ev.ret _
theorem abS (w : S_api_World) (s : Str) (v : Val) (hv : ∀ v ∈ w.values, dX v) (hu : dX v) : Ev (fun n => GD n w s v) (setW w s v) := by
 unfold GD setW
 refine Ev.bind (xE w hv) ?_
 cases h : oG w with
 | false => exact Ev.ret _
 | true =>
  simp only [Bool.not_true, cond_false]
  refine Ev.bind (yt w.env s) ?_
  show Ev (fun n => cond (decide (jk w s < 0)) _ ((idx w.env.names (jk w s)).bind _)) _
  by_cases hp : jk w s < 0
  ·rw [decide_eq_true hp]; exact Ev.ret _
  ·obtain ⟨d, u, g1, g2, _, g4, g5, _⟩ := Hr h s hp
   obtain ⟨h1, h2, h3, h4⟩ := (sF w).1 h
   have hd := uP h1 d g4
   rw [decide_eq_false hp, g1]
   refine Ev.bind (NQ w.env w.sizes (qx h2) (mV hd.1) hd.2 v hu) ?_
   show Ev _ (cond (!(hasB w.env w.sizes d.ty v)) (OL, 7) ((⟨w.env, w.sizes, upd w.values (jk w s) v⟩ : S_api_World), (0 : Int)))
   cases hb : hasB w.env w.sizes d.ty v with
   | false => exact Ev.ret _
   | true =>
    simp only [Bool.not_true, cond_false]
    refine Ev.bind (Qf h) (Ev.bind (Il v (HV (mV hd.1) v hb)) ?_)
    show Ev (fun n => (idx w.values (jk w s)).bind _) _
    rw [g2]
    exact Ev.ret _
theorem V3 (l : List Int) : Ev (fun n => uJ n l l) true := by
 unfold uJ
 simp only [qo, cond_false]
 have h1 := iH l (fun n k i => pU n l l k i) (fun _ _ => some false) (fun _ => false) false
  (fun n k i => by
   show cond _ _ _ = _
   congr 1
   cases hx : idx l i with
   | none => rfl
   | some x => simp only [Option.bind_some, qo, cond_false])
  (fun x _ => Ev.ret _)
 rw [CF] at h1
 exact Ev.bind h1 (Ev.ret _)
theorem Gy (w : S_api_World) : Ev (fun n => qm n w w) true := by
 unfold qm
 refine Ev.bind (a := true) ?_ (Ev.ret _)
 refine Ev.bind (Ew w.env) ?_
 refine Ev.bind (V3 w.sizes) ?_
 have h := xD w.values w.values fun a _ b => wO a b
 rw [(zC w.values w.values).2 rfl] at h
 exact Ev.bind h (Ev.ret _)
theorem Zr {w : S_api_World} {s : Str} {v : Val} (h : (setW w s v).2 = 0) : oG w = true ∧ ¬ jk w s < 0 ∧ (∃ d, idx w.env.names (jk w s) = some d ∧ hasB w.env w.sizes d.ty v = true) ∧ setW w s v = (⟨w.env, w.sizes, upd w.values (jk w s) v⟩, 0) := by
 unfold setW at h ⊢
 cases hw : oG w with
 | false => rw [hw] at h; simp at h
 | true =>
  rw [hw] at h
  simp only [Bool.not_true, cond_false] at h ⊢
  by_cases hp : jk w s < 0
  ·rw [decide_eq_true hp] at h; simp at h
  ·rw [decide_eq_false hp] at h ⊢
   simp only [cond_false] at h ⊢
   cases hd : idx w.env.names (jk w s) with
   | none => rw [hd] at h; simp at h
   | some d =>
    rw [hd] at h
    simp only at h ⊢
    cases hb : hasB w.env w.sizes d.ty v with
    | false => rw [hb] at h; simp at h
    | true => exact ⟨trivial, hp, ⟨d, rfl, hb⟩, rfl⟩
theorem Ro (w : S_api_World) (s : Str) (v : Val) (hs : ∀ d ∈ w.env.names, d.name.length ≤ 9223372036854775807) (hw : ∀ v ∈ w.values, dX v) (hv : dX v) : Ev (fun n => vT n w s v) true := by
 unfold vT xI
 refine Ev.bind (a := decide ((w.env.carriers.length : Int) ≤ 100) && decide ((w.env.names.length : Int) ≤ 100)) ?_ ?_
 ·cases decide ((w.env.carriers.length : Int) ≤ 100) <;> exact Ev.ret _
 cases (decide ((w.env.carriers.length : Int) ≤ 100) && decide ((w.env.names.length : Int) ≤ 100)) with
 | false => exact xQ
 | true =>
  simp only [Bool.not_true, cond_false]
  refine Ev.bind (Ur w s hs) (Ev.bind (aav w s hw) (Ev.bind (aas w s v hs) (Ev.bind (abS w s v hw hv) ?_)))
  simp only [beq_self_eq_true, qo, Bool.not_true, cond_false]
  refine Ev.bind (a := false) (Ev.bind (tN _) (Ev.bind (Gy _) (Ev.ret _))) ?_
  simp only [cond_false]
  by_cases h0 : (setW w s v).2 = 0
  ·obtain ⟨h1, h2, ⟨d, h3, h4⟩, h5⟩ := Zr h0
   obtain ⟨q1, q2, q3, q4⟩ := (sF w).1 h1
   obtain ⟨d', u, g1, g2, g3, _, _, g6⟩ := Hr h1 s h2
   rw [h3] at g1
   obtain rfl : d = d' := Option.some.inj g1
   obtain ⟨p0, p1⟩ := Kh h3
   obtain ⟨_, p2⟩ := Kh g2
   rw [h5]
   simp only [qo, cond_false]
   generalize hW : (⟨w.env, w.sizes, upd w.values (jk w s) v⟩ : S_api_World) = W
   have e1 : W.env = w.env := by rw [← hW]
   have e2 : W.sizes = w.sizes := by rw [← hW]
   have e3 : W.values = w.values.set (jk w s).toNat v := by rw [← hW]; rfl
   have e4 : jk W s = jk w s := by unfold jk; rw [e1]
   have hW1 : oG W = true := by
    refine (sF W).2 ⟨by rw [e1]; exact q1, by rw [e1, e2]; exact q2, by rw [e1, e3, List.length_set]; exact q3, fun j b x hb hx => ?_⟩
    rw [e1] at hb
    rw [e3, List.getElem?_set] at hx
    rw [e1, e2]
    by_cases hj : (jk w s).toNat = j
    ·rw [if_pos hj, if_pos g6] at hx
     obtain rfl := Option.some.inj hx
     rw [← hj, p1] at hb
     obtain rfl := Option.some.inj hb
     exact h4
    ·rw [if_neg hj] at hx
     exact q4 j b x hb hx
   have i1 : idx W.values (jk w s) = some v := by
    unfold idx
    rw [if_pos p0, e3, List.getElem?_set, if_pos rfl, if_pos g6]
   have v1 : F6 W s = (v, true) := by
    unfold F6
    rw [hW1, e4, decide_eq_false h2, i1]
    rfl
   have v2 : (F6 w s).1 = u := by
    unfold F6
    rw [h1, decide_eq_false h2, g2]
    rfl
   have s1 : setW W s u = (w, 0) := by
    unfold setW
    rw [hW1, e4, decide_eq_false h2, e1, h3, e2]
    simp only [Bool.not_true, cond_false]
    rw [g3]
    simp only [Bool.not_true, cond_false]
    have : upd W.values (jk w s) u = w.values := by
     unfold upd
     rw [e3, List.set_set]
     apply List.ext_getElem?
     intro j
     rw [List.getElem?_set]
     by_cases hj : (jk w s).toNat = j
     ·rw [if_pos hj, if_pos g6, ← hj, p2]
     ·rw [if_neg hj]
    rw [this]
   have hsW : ∀ d ∈ W.env.names, d.name.length ≤ 9223372036854775807 := by rw [e1]; exact hs
   have E1 := Ur W s hsW
   have E2 := aas W s u hsW
   rw [v1] at E1
   rw [s1] at E2
   rw [v2]
   refine Ev.bind E1 (Ev.bind E2 (Ev.bind (a := true) ?_ (Ev.ret _)))
   simp only [cond_true, beq_self_eq_true]
   exact Ev.bind (tN _) (Ev.bind (Gy _) xQ)
  ·have : ((setW w s v).2 != 0) = true := by simpa using h0
   rw [this]
   exact xQ
end Abs
end Go.Proofs.YtkopaeklihhdlaaGreat

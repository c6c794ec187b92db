/-
  Plain functions with fuel: what they come to ('Ev'); loops over a list. Conditions: none; lemmas without a program.
-/
import Derived.Test.YtiiaccpcoclklaaGreatCP15x9fab29
import Derived.Test.YtiiaccpcoclklaaGreatCT24oxa6e04d
set_option linter.unusedSimpArgs false
set_option linter.unusedVariables false
namespace Go.Proofs.YtiiaccpcoclklaaGreat
namespace Abs
open Go
theorem xq {α : Type} (p : α → Bool) : ∀ (l pre : List α), (∃ x, l.find? p = some x ∧ p x = true ∧ 0 ≤ oL p (pre.length : Int) l ∧ idx (pre ++ l) (oL p (pre.length : Int) l) = some x) ∨ (l.find? p = none ∧ oL p (pre.length : Int) l = -1)
 | [], _ => .inr ⟨rfl, rfl⟩
 | x :: xs, pre => by
  simp only [oL, List.find?_cons]
  cases h : p x with
  | true => exact .inl ⟨x, rfl, h, by simp, zC pre x xs⟩
  | false =>
   have := xq p xs (pre ++ [x])
   simp only [List.length_append, List.length_singleton, Int.natCast_add, Int.natCast_one, List.append_assoc, List.singleton_append] at this
   exact this
theorem Ij : ∀ t : Ty, Ev (fun n => j5 n t) (iI 2 t) := Ty.ind fun k nm ks ih => by
 refine Ev.succ ?_
 show Ev (fun n => sD n _ (.mk k nm ks)) _
 unfold sD
 simp only [Ty.kind, iI, Jw]
 cases hq : (k == 2)
 ·have h := iP ks (fun n k' i => uS n (fun p0 => j5 n p0) (.mk k nm ks) k' i) (fun n x => j5 n x) (iI 2) true (fun n k i => rfl) ih
  simp only [cond_false, Bool.false_or]
  refine Ev.bind h ?_
  cases ks.any (iI 2)
  ·exact Ev.ret _
  ·exact Ev.ret _
 ·exact Ev.ret _
theorem Ye : ∀ {ts : List Ty} {t : Ty}, t ∈ ts → (fB t).length ≤ (mR ts).length
 | [], t, h => by cases h
 | u :: ts, t, ht => by
  simp only [mR, List.length_append]
  rcases List.mem_cons.1 ht with rfl | ht
  ·omega
  ·have := Ye ht; omega
theorem Lr : ∀ t : Ty, CZ t = true → (fB t).length ≤ 16 → Ev (fun n => og n t) (fB t) := Ty.ind fun k nm ks ih hok hlen => by
 refine Ev.succ ?_
 show Ev (fun n => tO n _ (.mk k nm ks)) _
 unfold tO
 simp only [Ty.kind, Ty.name, fB] at hlen ⊢
 simp only [CZ, Bool.and_eq_true, decide_eq_true_eq] at hok
 cases hq : (k == 3) with
 | true => exact Ev.ret _
 | false =>
  rw [hq] at hlen
  simp only [cond_false] at hlen ⊢
  have h := jc ks (fun n k' i s => wY n (fun p0 => og n p0) (.mk k nm ks) k' (s, i)) (fun n x s => (og n x).bind fun x2 => app 16 s x2) (fun x s => s ++ fB x) (fun s => s) (fun suf s => s.length + (mR suf).length ≤ 16)
   (fun n k' i s => by
    show cond _ _ _ = _
    congr 1
    show (idx ks i).bind _ = _
    congr 1
    funext x
    simp only [Option.bind_assoc])
   (fun x suf s hx hs => by
    simp only [mR, List.length_append] at hs
    refine ⟨Ev.bind (ih x hx (HZ hok.2 x hx) (by have := Ye hx; omega)) ?_, ?_⟩
    ·rw [eD (by omega) (by omega)]; exact Ev.ret _
    ·simp only [List.length_append]; omega) (s0 := ([] : List Str)) (by simpa using hlen)
  have hf : ∀ (ts : List Ty) (s : List Str), ts.foldl (fun s x => s ++ fB x) s = s ++ mR ts := by
   intro ts
   induction ts with
   | nil => intro s; simp [mR]
   | cons t ts iht => intro s; simp [mR, iht]
  rw [hf] at h
  exact Ev.bind h (Ev.ret _)
theorem EK (env : Env) (s : Str) : Ev (fun n => kH n env s) (oL (fun c => c.name == s) 0 env.carriers) := by
 unfold kH
 exact uj env.carriers (fun n k i => rZ n env s k i) (fun _ x => some (x.name == s)) (fun c => c.name == s) (fun n k i => rfl) (fun x _ => Ev.ret _)
theorem FM (a : Int) : decide (a < 0) = !(decide (0 ≤ a)) := by
 by_cases h : a < 0
 ·rw [decide_eq_true h, decide_eq_false (by omega)]; rfl
 ·rw [decide_eq_false h, decide_eq_true (by omega)]; rfl
theorem Nf (env : Env) {t : Ty} (h : bR t = true) : Ev (fun n => xH n env t) ((fB t).all (dM env)) := by
 unfold xH
 obtain ⟨h1, h2⟩ := xW h
 refine Ev.bind (Lr t h1 h2) ?_
 have hs := iP (fB t) (fun n k i => Bl n env (fB t) k i) (fun n x => (kH n env x).bind fun x3 => some (decide (x3 < 0))) (fun s => !(dM env s)) false
  (fun n k i => by
   show cond _ _ _ = _
   congr 1
   congr 1
   funext x
   simp only [Option.bind_assoc, Option.bind_some])
  (fun x _ => by
   refine Ev.bind (EK env x) ?_
   rw [FM, xQ _ _ _ (Int.le_refl _)]
   exact Ev.ret _)
 rw [oV] at hs
 refine Ev.bind hs ?_
 cases (fB t).all (dM env)
 ·exact Ev.ret _
 ·exact Ev.ret _
theorem BF (env : Env) (h : (names2 env).length ≤ 1000000) : Ev (fun n => qw n env) (names2 env) := by
 unfold qw
 simp only [names2, List.length_append, List.length_map] at h
 have h0 := jc env.carriers (fun n k i s => wP n env k (s, i)) (fun n x s => app 16 s [x.name]) (fun x s => s ++ [x.name]) (fun s => s) (fun suf s => s.length + suf.length ≤ 1000000)
  (fun n k i s => rfl)
  (fun x suf s hx hs => by
   simp only [List.length_cons] at hs
   refine ⟨?_, ?_⟩
   ·rw [eD (by simp only [List.length_singleton]; omega) (by omega)]
    exact Ev.ret _
   ·simp only [List.length_append, List.length_singleton]; omega) (s0 := ([] : List Str)) (by simp only [List.length_nil]; omega)
 have hf0 : ∀ (cs : List Carrier) (s : List Str), cs.foldl (fun s x => s ++ [x.name]) s = s ++ cs.map (·.name) := by
  intro cs
  induction cs with
  | nil => intro s; simp
  | cons c cs ih => intro s; rw [List.foldl_cons, ih]; simp
 rw [hf0, List.nil_append] at h0
 have h1 := jc env.carriers (fun n k i s => wK n env k (s, i)) (fun n x s => app 16 s x.elems) (fun x s => s ++ x.elems) (fun s => s) (fun suf s => s.length + (suf.flatMap (·.elems)).length ≤ 1000000)
  (fun n k i s => rfl)
  (fun x suf s hx hs => by
   simp only [List.flatMap_cons, List.length_append] at hs
   refine ⟨?_, ?_⟩
   ·rw [eD (by omega) (by omega)]
    exact Ev.ret _
   ·simp only [List.length_append]; omega) (s0 := env.carriers.map (·.name)) (by simp only [List.length_map]; omega)
 have hf1 : ∀ (cs : List Carrier) (s : List Str), cs.foldl (fun s x => s ++ x.elems) s = s ++ cs.flatMap (·.elems) := by
  intro cs
  induction cs with
  | nil => intro s; simp
  | cons c cs ih => intro s; rw [List.foldl_cons, ih]; simp
 rw [hf1] at h1
 have h2 := jc env.names (fun n k i s => wm n env k (s, i)) (fun n x s => app 16 s [x.name]) (fun x s => s ++ [x.name]) (fun s => s) (fun suf s => s.length + suf.length ≤ 1000000)
  (fun n k i s => rfl)
  (fun x suf s hx hs => by
   simp only [List.length_cons] at hs
   refine ⟨?_, ?_⟩
   ·rw [eD (by simp only [List.length_singleton]; omega) (by omega)]
    exact Ev.ret _
   ·simp only [List.length_append, List.length_singleton]; omega) (s0 := env.carriers.map (·.name) ++ env.carriers.flatMap (·.elems)) (by simp only [List.length_append, List.length_map]; omega)
 have hf2 : ∀ (cs : List Decl) (s : List Str), cs.foldl (fun s x => s ++ [x.name]) s = s ++ cs.map (·.name) := by
  intro cs
  induction cs with
  | nil => intro s; simp
  | cons c cs ih => intro s; rw [List.foldl_cons, ih]; simp
 rw [hf2, List.append_assoc] at h2
 exact Ev.bind h0 (Ev.bind h1 (Ev.bind h2 (Ev.ret _)))
theorem ajX (l : List Str) : Ev (fun n => tJ n l n 0) (cond (lu [] l) (.nx ()) (.rt false)) := by
 have h := EC l (fun n k i (_ : Unit) => tJ n l k i) (fun n i x _ => (mZ l 0 i).bind fun x3 => (mq n x x3).bind fun x4 => cond x4 (some (.rt false)) (some (.nx ()))) (fun i x _ => cond ((l.take i.toNat).any (· == x)) (.rt false) (.nx ())) (fun _ => ())
  (fun i suf _ => ∃ pre, l = pre ++ suf ∧ i = (pre.length : Int))
  (fun n k i s => by
   show cond _ _ _ = _
   congr 1
   congr 1
   funext x
   cases mZ l 0 i with
   | none => rfl
   | some y =>
    simp only [Option.bind_some]
    cases mq n x y with
    | none => rfl
    | some b => cases b <;> rfl)
  (fun i x suf s hx hs => by
   obtain ⟨pre, hp, rfl⟩ := hs
   refine ⟨?_, fun _ _ => ⟨pre ++ [x], by rw [hp]; simp, by simp⟩⟩
   rw [Co l pre.length (by rw [hp]; simp)]
   simp only [Option.bind_some, Int.toNat_natCast]
   refine Ev.bind (qd _ _) ?_
   cases (l.take pre.length).any (· == x)
   ·exact Ev.ret _
   ·exact Ev.ret _) (s0 := ()) ⟨[], rfl, rfl⟩
 have key : ∀ (suf pre : List Str), l = pre ++ suf → dZ (τ := Unit) (fun i x _ => cond ((l.take i.toNat).any (· == x)) (.rt false) (.nx ())) (fun _ => ()) (pre.length : Int) suf () = cond (lu pre suf) (.nx ()) (.rt false) := by
  intro suf
  induction suf with
  | nil => intro pre _; rfl
  | cons x suf ih =>
   intro pre hp
   have ht : l.take pre.length = pre := by rw [hp]; simp
   simp only [dZ, lu, Int.toNat_natCast, ht]
   cases pre.any (· == x) with
   | true => rfl
   | false =>
    have := ih (pre ++ [x]) (by rw [hp]; simp)
    simp only [List.length_append, List.length_singleton, Int.natCast_add, Int.natCast_one] at this
    simpa using this
 have := key l [] rfl
 simp only [List.length_nil, Int.natCast_zero] at this
 rw [this] at h
 exact h
theorem nI (env : Env) : Ev (fun n => lS n env) (bJ env) := by
 unfold lS
 by_cases h1 : 8 < (env.carriers.length : Int)
 ·have : bJ env = false := by simp only [bJ, decide_eq_true h1, Bool.true_or, Bool.not_true, Bool.false_and]
  rw [this, decide_eq_true h1]
  exact Ev.ret _
 by_cases h2 : 64 < (env.names.length : Int)
 ·have : bJ env = false := by simp only [bJ, decide_eq_true h2, Bool.or_true, Bool.not_true, Bool.false_and]
  rw [this, decide_eq_true h2, decide_eq_false h1]
  exact Ev.ret _
 simp only [bJ, decide_eq_false h1, decide_eq_false h2, Bool.or_false, Bool.not_false, Bool.true_and, cond_false, Option.bind_some]
 have hcar := Js env.carriers (fun n k i => wh n env k i) (fun n x => ((gV n x.name).bind fun x10 => cond (!x10) (some true) (some (decide (8 < (x.elems.length : Int))))).bind fun s7 => cond s7 (some (.rt false)) ((pX n x n 0).bind (LR.el (fun _ => some (.nx ())) (fun r => some (.rt r))))) (fun c => !(Et c)) false
  (fun n k i => by
   show cond _ _ _ = _
   congr 1
   congr 1
   funext x
   cases ((gV n x.name).bind fun x10 => cond (!x10) (some true) (some (decide (8 < (x.elems.length : Int))))) with
   | none => rfl
   | some b =>
    cases b with
    | true => rfl
    | false =>
     simp only [Option.bind_some, cond_false]
     cases pX n x n 0 with
     | none => rfl
     | some r => cases r <;> rfl)
  (fun c hc => by
   refine Ev.bind (a := !(ident c.name) || decide (8 < (c.elems.length : Int))) (Ev.bind (nC c.name) ?_) ?_
   ·cases ident c.name
    ·exact Ev.ret _
    ·exact Ev.ret _
   ·unfold Et
    cases ident c.name with
    | false => exact Ev.ret _
    | true =>
     cases decide (8 < (c.elems.length : Int)) with
     | true => exact Ev.ret _
     | false =>
      simp only [Bool.not_true, Bool.false_or, cond_false, Bool.true_and, Bool.not_false]
      have h := iP c.elems (fun n k i => pX n c k i) (fun n x => (gV n x).bind fun x9 => some (!x9)) (fun s => !(ident s)) false
       (fun n k i => by
        show cond _ _ _ = _
        congr 1
        congr 1
        funext x
        simp only [Option.bind_assoc, Option.bind_some])
       (fun x _ => Ev.bind (nC x) (Ev.ret _))
      rw [oV] at h
      refine Ev.bind h ?_
      cases c.elems.all ident
      ·exact Ev.ret _
      ·exact Ev.ret _)
 rw [oV] at hcar
 refine Ev.bind hcar ?_
 cases hc : env.carriers.all Et with
 | false => exact Ev.ret _
 | true =>
  simp only [Bool.not_true, cond_false, Bool.true_and]
  have hdecl := iP env.names (fun n k i => wz n env k i) (fun n x => (xM n x.name).bind fun x6 => cond (!x6) (some true) ((iC n x.ty).bind fun x7 => cond (!x7) (some true) ((j5 n x.ty).bind fun x8 => cond x8 (some true) ((xH n env x.ty).bind fun x9 => some (!x9))))) (fun d => !(sI env d)) false
   (fun n k i => rfl)
   (fun d hd => by
    refine Ev.bind (Bj d.name) ?_
    unfold sI
    cases named d.name with
    | false => exact Ev.ret _
    | true =>
     simp only [Bool.not_true, cond_false, Bool.true_and]
     refine Ev.bind (jJ d.ty) ?_
     cases hv : bR d.ty with
     | false => exact Ev.ret _
     | true =>
      refine Ev.bind (Ij d.ty) ?_
      cases iI 2 d.ty with
      | true => exact Ev.ret _
      | false => exact Ev.bind (Nf env hv) (Ev.ret _))
  rw [oV] at hdecl
  refine Ev.bind hdecl ?_
  cases hd : env.names.all (sI env) with
  | false => exact Ev.ret _
  | true =>
   simp only [Bool.not_true, cond_false, Bool.true_and]
   have hlen := yY h1 h2 hc
   refine Ev.bind (BF env (by omega)) ?_
   refine Ev.bind (ajX _) ?_
   cases lu [] (names2 env)
   ·exact Ev.ret _
   ·exact Ev.ret _
def Gm (env : Env) (s : Str) : Ty × Bool := match look env s with | some t => (t, true) | none => (bE, false)
theorem wu {α : Type} (a b : List (Str × α)) (k : Str) : fC (a ++ b) k = (match fC a k with | some v => some v | none => fC b k) := by
 induction a with
 | nil => rfl
 | cons p a ih =>
  rw [List.cons_append, jU, jU]
  by_cases h : (p.1 == k) = true
  ·rw [if_pos h, if_pos h]
  ·rw [if_neg h, if_neg h, ih]
theorem ajD (cs : List Carrier) (k : Str) : fC (cs.flatMap fun c => c.elems.map fun e => (e, yL c.name)) k = (cs.find? fun c => c.elems.any (· == k)).map fun c => yL c.name := by
 induction cs with
 | nil => rfl
 | cons c cs ih =>
  rw [List.flatMap_cons, wu, List.find?_cons, ih]
  rw [Jv (fun e => e) (fun _ => yL c.name)]
  cases hf : c.elems.find? (fun e => e == k) with
  | none =>
   have : c.elems.any (· == k) = false := by
    rw [List.any_eq_false]
    exact List.find?_eq_none.1 hf
   rw [this]; rfl
  | some e =>
   have : c.elems.any (· == k) = true := by
    rw [List.any_eq_true]
    exact ⟨e, List.mem_of_find?_eq_some hf, List.find?_some (p := fun e => e == k) hf⟩
   rw [this]; rfl
def RA (s : Str) : Int → List Carrier → Int × Int
 | _, [] => (-1, -1)
 | i, c :: cs => cond (c.elems.any (· == s)) (i, oL (· == s) 0 c.elems) (RA s (i + 1) cs)
theorem acs (s : Str) : ∀ (cs : List Carrier) (i : Int), (RA s i cs).1 = oL (fun c => c.elems.any (· == s)) i cs
 | [], _ => rfl
 | c :: cs, i => by
  simp only [RA, oL]
  cases c.elems.any (· == s)
  ·exact acs s cs (i + 1)
  ·rfl
theorem aa9 (env : Env) (s : Str) : Ev (fun n => tu n env s) (RA s 0 env.carriers) := by
 unfold tu
 have hin : ∀ (i : Int) (c : Carrier), idx env.carriers i = some c → Ev (fun n => kL n env s i n 0) (cond (c.elems.any (· == s)) (.rt (i, oL (· == s) 0 c.elems)) (.nx ())) := fun i c hi => by
  have h1 := EC c.elems (fun n k j (_ : Unit) => kL n env s i k j) (fun _ j x _ => some (cond (x == s) (.rt (i, j)) (.nx ()))) (fun j x _ => cond (x == s) (.rt (i, j)) (.nx ())) (fun _ => ()) (fun _ _ _ => True)
   (fun n k j _ => by
    show (idx env.carriers i).bind _ = _
    rw [hi, Option.bind_some]
    congr 1
    rw [Option.bind_some]
    congr 1
    funext x
    cases x == s <;> rfl)
   (fun j x suf _ hx _ => ⟨Ev.ret _, fun _ _ => trivial⟩) (s0 := ()) trivial
  have key : ∀ (l : List Str) (j : Int), dZ (τ := Unit) (fun j x _ => cond (x == s) (.rt (i, j)) (.nx ())) (fun _ => ()) j l () = cond (l.any (· == s)) (.rt (i, oL (· == s) j l)) (.nx ()) := by
   intro l
   induction l with
   | nil => intro j; rfl
   | cons x l ih =>
    intro j
    simp only [dZ, List.any_cons, oL]
    cases x == s with
    | true => rfl
    | false => exact ih (j + 1)
  rw [key] at h1
  exact h1
 have h2 := EC env.carriers (fun n k i (_ : Unit) => su n env s k i) (fun n i _ _ => kL n env s i n 0) (fun i c _ => cond (c.elems.any (· == s)) (.rt (i, oL (· == s) 0 c.elems)) (.nx ())) (fun _ => ()) (fun i suf _ => ∃ pre, env.carriers = pre ++ suf ∧ i = (pre.length : Int))
  (fun n k i _ => by
   show cond _ _ _ = _
   congr 1
   cases hi : idx env.carriers i with
   | none =>
    have : kL n env s i n 0 = none := by
     cases n with
     | zero => rfl
     | succ m =>
      show (idx env.carriers i).bind _ = none
      rw [hi]; rfl
    rw [this]; rfl
   | some x => rfl)
  (fun i x suf _ hx hs => by
   obtain ⟨pre, hp, rfl⟩ := hs
   exact ⟨hin _ x (by rw [hp]; exact zC pre x suf), fun _ _ => ⟨pre ++ [x], by rw [hp]; simp, by simp⟩⟩) (s0 := ()) ⟨[], rfl, rfl⟩
 refine Ev.bind h2 ?_
 have key : ∀ (l : List Carrier) (i : Int), (match dZ (τ := Unit) (fun i (c : Carrier) _ => cond (c.elems.any (· == s)) (.rt (i, oL (· == s) 0 c.elems)) (.nx ())) (fun _ => ()) i l () with | .nx _ => ((-1, -1) : Int × Int) | .rt r => r) = RA s i l := by
  intro l
  induction l with
  | nil => intro i; rfl
  | cons c l ih =>
   intro i
   simp only [dZ, RA]
   cases c.elems.any (· == s) with
   | true => rfl
   | false => exact ih (i + 1)
 rw [← key env.carriers 0]
 generalize dZ (τ := Unit) (fun i (c : Carrier) _ => cond (c.elems.any (· == s)) (.rt (i, oL (· == s) 0 c.elems)) (.nx ())) (fun _ => ()) 0 env.carriers () = R
 cases R
 ·exact Ev.ret _
 ·exact Ev.ret _
theorem Uj (env : Env) (s : Str) : Ev (fun n => sU n env s) (oL (fun d => d.name == s) 0 env.names) := by
 unfold sU
 exact uj env.names (fun n k i => wX n env s k i) (fun _ x => some (x.name == s)) (fun c => c.name == s) (fun n k i => rfl) (fun x _ => Ev.ret _)
theorem KF (env : Env) (s : Str) : Ev (fun n => (sU n env s).bind fun (x1 : Int) => (cond (decide (0 ≤ x1)) ((idx env.names x1).bind fun (x2 : Decl) => some (x2.ty, true)) ((kH n env s).bind fun (x3 : Int) => (cond (decide (0 ≤ x3)) (some ((Ty.mk 5 ([] : Str) ([(Ty.mk 3 s ([]))])), true)) ((tu n env s).bind fun (x4 : Int × Int) => (cond (decide (0 ≤ x4.1)) ((idx env.carriers x4.1).bind fun (x5 : Carrier) => some ((Ty.mk 3 x5.name ([])), true)) (some ((Ty.mk 0 ([] : Str) ([])), false)))))))) (Gm env s) := by
 refine Ev.bind (Uj env s) ?_
 unfold Gm look QD
 rw [wu, wu, Jv (fun d : Decl => d.name) (fun d => d.ty), Jv (fun c : Carrier => c.name) (fun c => bB (yL c.name)), ajD]
 rcases xq (fun d : Decl => d.name == s) env.names [] with ⟨x, h1, h2, h3, h4⟩ | ⟨h1, h2⟩
 ·simp only [List.length_nil, Int.natCast_zero, List.nil_append] at h3 h4
  rw [h1, decide_eq_true h3, h4]
  exact Ev.ret _
 ·simp only [List.length_nil, Int.natCast_zero] at h2
  rw [h1, h2]
  simp only [show decide ((0 : Int) ≤ -1) = false from rfl, cond_false, Option.map_none]
  refine Ev.bind (EK env s) ?_
  rcases xq (fun c : Carrier => c.name == s) env.carriers [] with ⟨x, h1, h2, h3, h4⟩ | ⟨h1, h2⟩
  ·simp only [List.length_nil, Int.natCast_zero, List.nil_append] at h3 h4
   rw [h1, decide_eq_true h3]
   have e : x.name = s := by simpa using h2
   subst e
   exact Ev.ret _
  ·simp only [List.length_nil, Int.natCast_zero] at h2
   rw [h1, h2]
   simp only [show decide ((0 : Int) ≤ -1) = false from rfl, cond_false, Option.map_none]
   refine Ev.bind (aa9 env s) ?_
   rw [acs]
   rcases xq (fun c : Carrier => c.elems.any (· == s)) env.carriers [] with ⟨x, h1, h2, h3, h4⟩ | ⟨h1, h2⟩
   ·simp only [List.length_nil, Int.natCast_zero, List.nil_append] at h3 h4
    rw [h1, decide_eq_true h3, h4]
    exact Ev.ret _
   ·simp only [List.length_nil, Int.natCast_zero] at h2
    rw [h1, h2]
    exact Ev.ret _
theorem ate {α β : Type} (l : List α) (l' : List β) : ((l.length : Int) != (l'.length : Int)) = !(l.length == l'.length) := ae3 l.length l'.length
theorem ig : ∀ t u : Ty, Ev (fun n => bL n t u) (bX t u) := Ty.ind fun k nm ks ih u => by
 obtain ⟨k', nm', ks'⟩ := u
 refine Ev.succ ?_
 show Ev (fun n => ny n _ (.mk k nm ks) (.mk k' nm' ks')) _
 unfold ny
 simp only [Ty.kind, Ty.name, Ty.kids, bX, bne, ate]
 cases k == k' with
 | false => exact Ev.ret _
 | true =>
  cases nm == nm' with
  | false => exact Ev.ret _
  | true =>
   simp only [Bool.not_true, cond_false, Option.bind_some, Bool.true_and]
   cases hl : (ks.length : Int) == (ks'.length : Int) with
   | false =>
    have : ks.length ≠ ks'.length := fun e => by simp [e] at hl
    rw [Qi ks ks' this]
    exact Ev.ret _
   | true =>
    have hlen : ks.length = ks'.length := by have := beq_iff_eq.1 hl; omega
    simp only [Bool.not_true, cond_false]
    have h := Jb ks ks' hlen (fun n k'' i => tq n (fun p0 p1 => bL n p0 p1) (.mk k nm ks) (.mk k' nm' ks') k'' i) (fun n x y => (bL n x y).bind fun b => some (!b)) (fun x y => !(bX x y)) false
     (fun n k'' i => by
      show cond _ _ _ = _
      congr 1
      show (idx ks i).bind _ = _
      congr 1
      funext x
      show (idx ks' i).bind _ = _
      congr 1
      funext y
      simp only [Option.bind_assoc, Option.bind_some])
     (fun x hx y => Ev.bind (ih x hx y) (Ev.ret _))
    rw [Qn ks ks' hlen] at h
    refine Ev.bind h ?_
    cases xL ks ks'
    ·exact Ev.ret _
    ·exact Ev.ret _
theorem acL {t : Ty} (h : Good t) : (t.kind == 2) = false := by cases h <;> rfl
theorem rC (n : Nat) {t : Ty} (h : Top t) : gD n t = some (bZ t).isSome := by
 rcases zO h with ⟨e, rfl, he⟩ | ⟨h1, h2, _⟩
 ·cases he <;> rfl
 ·unfold gD
  rw [h2, h1]
  rfl
theorem vS (n : Nat) {t : Ty} (h : Top t) : EN n t = some (fM t).isSome := by
 rcases zO h with ⟨e, rfl, he⟩ | ⟨h1, h2, h3⟩
 ·cases he <;> rfl
 ·unfold EN
  rw [h3, h1]
  rfl
theorem af3 (a b : Ty) : bX (bB a) (bB b) = bX a b := by simp [bB, bX, xL]
theorem aju {t : Ty} (h : Top t) : (t.kind == 2) = bX t dF := by
 rcases h with rfl | h
 ·rfl
 ·cases h <;> rfl
theorem adX {t : Ty} (h : Top t) : (t.kind == 1) = bX t iw := by
 rcases h with rfl | h
 ·rfl
 ·cases h <;> rfl
theorem asx {l : List Ty} (h : ∀ t ∈ l, Top t) : wT 2 l = l.all fun x => bX x dF := by
 unfold wT
 rw [Bool.eq_iff_iff, List.all_eq_true, List.all_eq_true]
 exact ⟨fun k t ht => by rw [← aju (h t ht)]; exact k t ht, fun k t ht => by rw [aju (h t ht)]; exact k t ht⟩
theorem ajW {l : List Ty} (h : ∀ t ∈ l, Top t) : wT 1 l = l.all fun x => bX x iw := by
 unfold wT
 rw [Bool.eq_iff_iff, List.all_eq_true, List.all_eq_true]
 exact ⟨fun k t ht => by rw [← adX (h t ht)]; exact k t ht, fun k t ht => by rw [adX (h t ht)]; exact k t ht⟩
section
variable {a b : Ty} (ha : Top a) (hb : Top b)
end
end Abs
end Go.Proofs.YtiiaccpcoclklaaGreat
namespace Go.Proofs.YtiiaccpcoclklaaGreat
namespace Abs
open Go
theorem Row.eta {f : Nat → Option (Ty × Bool)} {o : Option Ty} (h : Row f o) : Row (fun n => (f n).bind fun x => some (x.1, x.2)) o := by
 obtain ⟨r, h1, h2⟩ := h
 exact ⟨r, Ev.bind h1 (Ev.ret _), h2⟩
theorem Qq (l : List Ty) (t : Ty) : Ev (fun n => u6 n l t) (l.all fun x => bX x t) := by
 unfold u6
 have h := iP l (fun n k i => Fp n l t k i) (fun n x => (bL n x t).bind fun b => some (!b)) (fun x => !(bX x t)) false
  (fun n k i => by
   show cond _ _ _ = _
   congr 1
   congr 1
   funext x
   simp only [Option.bind_assoc, Option.bind_some])
  (fun x _ => Ev.bind (ig x t) (Ev.ret _))
 rw [oV] at h
 refine Ev.bind h ?_
 cases l.all fun x => bX x t
 ·exact Ev.ret _
 ·exact Ev.ret _
theorem vU (n : Nat) (x y : Ty) : vO n (bB (dL x y)) = some x := rfl
theorem sN (n : Nat) (x y : Ty) : sP n (bB (dL x y)) = some y := rfl
theorem adO {a : Ty} (ha : Top a) (x t : Ty) : (bZ a).bind (fun z => bY (bX z x) t) = bY (bX a (bB x)) t := by
 cases hs : bZ a with
 | none =>
  cases he : bX a (bB x) with
  | false => rfl
  | true => have := wE _ _ he; subst this; rw [EI] at hs; cases hs
 | some e =>
  obtain ⟨_, rfl⟩ := nE ha hs
  rw [af3]
  rfl
theorem aqr {a b : Ty} (hb : Top b) (t : Ty) : (bZ b).bind (fun e => bY (bX a e) t) = bY (a.kind != 2 && bX (bB a) b) t := by
 cases hs : bZ b with
 | none =>
  cases he : bX (bB a) b with
  | false => rw [Bool.and_false]; rfl
  | true => have := wE _ _ he; subst this; rw [EI] at hs; cases hs
 | some e =>
  obtain ⟨hg, rfl⟩ := nE hb hs
  rw [af3]
  cases he : bX a e with
  | false => rw [Bool.and_false]; simp only [Option.bind_some, he]
  | true =>
   have := wE _ _ he
   subst this
   simp only [Option.bind_some, he, bne, acL hg, Bool.not_false, Bool.and_true]
theorem afI {op : Int} (ho : op = 1 ∨ op = 2) {l : List Ty} (hl : ∀ t ∈ l, Top t) (hn : LenOk op l) (nm : Str) (m : Int) (ty : Ty) (ks : List Tm) : Row (fun n => gL n (.mk op nm m ty ks) l) (kD op l) := by
 rcases ho with rfl | rfl <;>
 ·exact Row.yes dF (Ev.ret _) rfl
theorem G6 {op : Int} (ho : op = 3 ∨ op = 4 ∨ op = 5 ∨ op = 6 ∨ op = 7) {l : List Ty} (hl : ∀ t ∈ l, Top t) (hn : LenOk op l) (nm : Str) (m : Int) (ty : Ty) (ks : List Tm) : Row (fun n => gL n (.mk op nm m ty ks) l) (kD op l) := by
 rcases ho with rfl | rfl | rfl | rfl | rfl <;>
 ·refine Row.eta (f := fun n => xV n _ l) ?_
  show Row (fun n => ((u6 n l (Ty.mk 2 ([] : Str) ([]))).bind fun x1 => some ((Ty.mk 2 ([] : Str) ([])), x1))) _
  exact Row.of dF _ (Ev.bind (Qq l dF) (Ev.ret _)) (by rw [← asx hl]; rfl)
theorem aeT {op : Int} (ho : op = 8 ∨ op = 9) {l : List Ty} (hl : ∀ t ∈ l, Top t) (hn : LenOk op l) (nm : Str) (m : Int) (ty : Ty) (ks : List Tm) : Row (fun n => gL n (.mk op nm m ty ks) l) (kD op l) := by
 rcases ho with rfl | rfl <;>
 ·obtain ⟨a, b, rfl⟩ := dR l (hn.two rfl)
  have ha := hl a (by simp)
  have hb := hl b (by simp)
  refine Row.eta (f := fun n => xV n _ [a, b]) ?_
  show Row (fun n => ((((idx [a, b] 0).bind fun x2 => ((gD n x2).bind fun x3 => (cond x3 ((idx [a, b] 1).bind fun x4 => some (x4.kind == 2)) (some false)))) : Option Bool).bind fun s4 => some ((Ty.mk 2 ([] : Str) ([])), s4))) _
  simp only [gF, jK, Option.bind_some, rC _ ha]
  show Row _ (bY ((bZ a).isSome && b.kind == 2) dF)
  cases bZ a with
  | none => exact .no dF (Ev.ret _) rfl
  | some e => exact .of dF (b.kind == 2) (Ev.ret _) rfl
theorem acy {op : Int} (ho : op = 10 ∨ op = 11) {l : List Ty} (hl : ∀ t ∈ l, Top t) (hn : LenOk op l) (nm : Str) (m : Int) (ty : Ty) (ks : List Tm) : Row (fun n => gL n (.mk op nm m ty ks) l) (kD op l) := by
 rcases ho with rfl | rfl <;>
 ·obtain ⟨a, b, rfl⟩ := dR l (hn.two rfl)
  have ha := hl a (by simp)
  have hb := hl b (by simp)
  refine Row.eta (f := fun n => xV n _ [a, b]) ?_
  show Row (fun n => ((((idx [a, b] 0).bind fun x5 => (cond (x5.kind != 2) ((idx [a, b] 0).bind fun x6 => ((idx [a, b] 1).bind fun x7 => ((bL n x6 x7).bind fun x8 => some x8))) (some false))) : Option Bool).bind fun s6 => some ((Ty.mk 2 ([] : Str) ([])), s6))) _
  simp only [gF, jK, Option.bind_some]
  show Row _ (bY (a.kind != 2 && bX a b) dF)
  cases a.kind != 2 with
  | false => exact .no dF (Ev.ret _) rfl
  | true => exact .of dF (bX a b) (Ev.bind (Ev.bind (ig a b) (Ev.ret _)) (Ev.ret _)) rfl
theorem Jt {op : Int} (ho : op = 12 ∨ op = 13 ∨ op = 14 ∨ op = 15) {l : List Ty} (hl : ∀ t ∈ l, Top t) (hn : LenOk op l) (nm : Str) (m : Int) (ty : Ty) (ks : List Tm) : Row (fun n => gL n (.mk op nm m ty ks) l) (kD op l) := by
 rcases ho with rfl | rfl | rfl | rfl <;>
 ·refine Row.eta (f := fun n => xV n _ l) ?_
  show Row (fun n => ((u6 n l (Ty.mk 1 ([] : Str) ([]))).bind fun x9 => some ((Ty.mk 2 ([] : Str) ([])), x9))) _
  exact Row.of dF _ (Ev.bind (Qq l iw) (Ev.ret _)) (by rw [← ajW hl]; rfl)
theorem acP {op : Int} (ho : op = 16 ∨ op = 17) {l : List Ty} (hl : ∀ t ∈ l, Top t) (hn : LenOk op l) (nm : Str) (m : Int) (ty : Ty) (ks : List Tm) : Row (fun n => gL n (.mk op nm m ty ks) l) (kD op l) := by
 rcases ho with rfl | rfl <;>
 ·obtain ⟨a, b, rfl⟩ := dR l (hn.two rfl)
  have ha := hl a (by simp)
  have hb := hl b (by simp)
  refine Row.eta (f := fun n => xV n _ [a, b]) ?_
  show Row (fun n => ((((idx [a, b] 0).bind fun x10 => (cond (x10.kind != 2) ((idx [a, b] 0).bind fun x11 => ((idx [a, b] 1).bind fun x12 => ((bL n (Ty.mk 5 ([] : Str) ([x11])) x12).bind fun x13 => some x13))) (some false))) : Option Bool).bind fun s9 => some ((Ty.mk 2 ([] : Str) ([])), s9))) _
  simp only [gF, jK, Option.bind_some]
  show Row _ ((bZ b).bind fun e => bY (bX a e) dF)
  rw [aqr hb]
  cases a.kind != 2 with
  | false => exact .no dF (Ev.ret _) rfl
  | true => exact .of dF (bX (bB a) b) (Ev.bind (Ev.bind (ig (bB a) b) (Ev.ret _)) (Ev.ret _)) rfl
theorem akH {l : List Ty} (hl : ∀ t ∈ l, Top t) (hn : LenOk 18 l) (nm : Str) (m : Int) (ty : Ty) (ks : List Tm) : Row (fun n => gL n (.mk 18 nm m ty ks) l) (kD 18 l) := by
 obtain ⟨a, b, rfl⟩ := dR l (hn.two rfl)
 have ha := hl a (by simp)
 have hb := hl b (by simp)
 refine Row.eta (f := fun n => xV n 18 [a, b]) ?_
 show Row (fun n => ((((idx [a, b] 0).bind fun x14 => ((gD n x14).bind fun x15 => (cond x15 ((idx [a, b] 0).bind fun x16 => ((idx [a, b] 1).bind fun x17 => ((bL n x16 x17).bind fun x18 => some x18))) (some false)))) : Option Bool).bind fun s10 => some ((Ty.mk 2 ([] : Str) ([])), s10))) _
 simp only [gF, jK, Option.bind_some, rC _ ha]
 show Row _ (bY ((bZ a).isSome && bX a b) dF)
 cases bZ a with
 | none => exact .no dF (Ev.ret _) rfl
 | some e => exact .of dF (bX a b) (Ev.bind (Ev.bind (ig a b) (Ev.ret _)) (Ev.ret _)) rfl
theorem amn {l : List Ty} (hl : ∀ t ∈ l, Top t) (hn : LenOk 19 l) (nm : Str) (m : Int) (ty : Ty) (ks : List Tm) : Row (fun n => gL n (.mk 19 nm m ty ks) l) (kD 19 l) := by
 exact Row.yes iw (Ev.ret _) rfl
theorem Cx {op : Int} (ho : op = 21 ∨ op = 22 ∨ op = 23 ∨ op = 24 ∨ op = 25 ∨ op = 26) {l : List Ty} (hl : ∀ t ∈ l, Top t) (hn : LenOk op l) (nm : Str) (m : Int) (ty : Ty) (ks : List Tm) : Row (fun n => gL n (.mk op nm m ty ks) l) (kD op l) := by
 rcases ho with rfl | rfl | rfl | rfl | rfl | rfl <;>
 ·show Row (fun n => ((u6 n l (Ty.mk 1 ([] : Str) ([]))).bind fun x1 => some ((Ty.mk 1 ([] : Str) ([])), x1))) _
  exact Row.of iw _ (Ev.bind (Qq l iw) (Ev.ret _)) (by rw [← ajW hl]; rfl)
theorem alM {l : List Ty} (hl : ∀ t ∈ l, Top t) (hn : LenOk 27 l) (nm : Str) (m : Int) (ty : Ty) (ks : List Tm) : Row (fun n => gL n (.mk 27 nm m ty ks) l) (kD 27 l) := by
 obtain ⟨a, b, rfl⟩ := dR l (hn.two rfl)
 have ha := hl a (by simp)
 have hb := hl b (by simp)
 show Row (fun n => ((((idx [a, b] 0).bind fun x2 => ((idx [a, b] 1).bind fun x3 => ((idx [a, b] 0).bind fun x4 => (cond (x4.kind != 2) ((idx [a, b] 1).bind fun x5 => some ((x5.kind != 2), ([x2, x3]))) (some (false, ([x2, x3]))))))) : Option (Bool × (List Ty))).bind fun s2 => some ((Ty.mk 4 ([] : Str) s2.2), s2.1))) _
 simp only [gF, jK, Option.bind_some]
 show Row _ (bY (a.kind != 2 && b.kind != 2) (dL a b))
 cases a.kind != 2 with
 | false => exact .no (dL a b) (Ev.ret _) rfl
 | true => exact .of (dL a b) (b.kind != 2) (Ev.ret _) rfl
theorem akV {l : List Ty} (hl : ∀ t ∈ l, Top t) (hn : LenOk 28 l) (nm : Str) (m : Int) (ty : Ty) (ks : List Tm) : Row (fun n => gL n (.mk 28 nm m ty ks) l) (kD 28 l) := by
 obtain ⟨a, l, rfl⟩ := KJ l (hn.some rfl)
 show Row (fun n => ((((idx (a :: l) 0).bind fun x6 => ((idx (a :: l) 0).bind fun x7 => (cond (x7.kind != 2) ((idx (a :: l) 0).bind fun x8 => ((u6 n (a :: l) x8).bind fun x9 => some (x9, ([x6])))) (some (false, ([x6])))))) : Option (Bool × (List Ty))).bind fun s3 => some ((Ty.mk 5 ([] : Str) s3.2), s3.1))) _
 simp only [gF, Option.bind_some]
 show Row _ (bY (a.kind != 2 && (a :: l).all fun x => bX x a) (bB a))
 cases a.kind != 2 with
 | false => exact .no (bB a) (Ev.ret _) rfl
 | true => exact .of (bB a) _ (Ev.bind (a := ((a :: l).all fun x => bX x a, [a])) (Ev.bind (Qq (a :: l) a) (Ev.ret _)) (Ev.ret _)) rfl
theorem alv {l : List Ty} (hl : ∀ t ∈ l, Top t) (hn : LenOk 30 l) (nm : Str) (m : Int) (ty : Ty) (ks : List Tm) : Row (fun n => gL n (.mk 30 nm m ty ks) l) (kD 30 l) := by
 show Row (fun n => ((u6 n l (Ty.mk 1 ([] : Str) ([]))).bind fun x10 => some ((Ty.mk 5 ([] : Str) ([(Ty.mk 1 ([] : Str) ([]))])), x10))) _
 exact Row.of (bB iw) _ (Ev.bind (Qq l iw) (Ev.ret _)) (by rw [← ajW hl]; rfl)
theorem O5 {op : Int} (ho : op = 31 ∨ op = 32 ∨ op = 33) {l : List Ty} (hl : ∀ t ∈ l, Top t) (hn : LenOk op l) (nm : Str) (m : Int) (ty : Ty) (ks : List Tm) : Row (fun n => gL n (.mk op nm m ty ks) l) (kD op l) := by
 rcases ho with rfl | rfl | rfl <;>
 ·obtain ⟨a, b, rfl⟩ := dR l (hn.two rfl)
  have ha := hl a (by simp)
  have hb := hl b (by simp)
  show Row (fun n => ((((idx [a, b] 0).bind fun x28 => ((idx [a, b] 0).bind fun x29 => ((gD n x29).bind fun x30 => (cond x30 ((idx [a, b] 0).bind fun x31 => ((idx [a, b] 1).bind fun x32 => ((bL n x31 x32).bind fun x33 => some (x33, x28.kind, x28.name, x28.kids)))) (some (false, x28.kind, x28.name, x28.kids)))))) : Option (Bool × Int × Str × (List Ty))).bind fun s8 => some ((Ty.mk s8.2.1 s8.2.2.1 s8.2.2.2), s8.1))) _
  simp only [gF, jK, Option.bind_some, rC _ ha]
  show Row _ (bY ((bZ a).isSome && bX a b) a)
  cases bZ a with
  | none => exact .no a (by simp only [Option.isSome_none, cond_false, Option.bind_some, mU]; exact Ev.ret _) rfl
  | some e => exact .of a (bX a b) (Ev.bind (a := (bX a b, a.kind, a.name, a.kids)) (Ev.bind (ig a b) (Ev.ret _)) (by simp only [mU]; exact Ev.ret _)) rfl
theorem alL {l : List Ty} (hl : ∀ t ∈ l, Top t) (hn : LenOk 34 l) (nm : Str) (m : Int) (ty : Ty) (ks : List Tm) : Row (fun n => gL n (.mk 34 nm m ty ks) l) (kD 34 l) := by
 obtain ⟨a, b, rfl⟩ := dR l (hn.two rfl)
 have ha := hl a (by simp)
 have hb := hl b (by simp)
 show Row (fun n => ((((idx [a, b] 0).bind fun x38 => ((gD n x38).bind fun x39 => (cond (!x39) (some true) ((idx [a, b] 1).bind fun x40 => ((gD n x40).bind fun x41 => some (!x41)))))) : Option Bool).bind fun s10 => (cond s10 (some ((Ty.mk 0 ([] : Str) ([])), false)) ((idx [a, b] 0).bind fun x34 => ((idx x34.kids 0).bind fun x35 => ((idx [a, b] 1).bind fun x36 => ((idx x36.kids 0).bind fun x37 => (((cond ((34 : Int) != 34) (some ([(Ty.mk 5 ([] : Str) ([(Ty.mk 4 ([] : Str) ([x35, x37]))]))])) (some ([(Ty.mk 4 ([] : Str) ([x35, x37]))]))) : Option (List Ty)).bind fun s11 => some ((Ty.mk 5 ([] : Str) s11), true))))))))) _
 simp only [gF, jK, Option.bind_some, rC _ ha, rC _ hb]
 show Row _ ((bZ a).bind fun x => (bZ b).map fun y => bB (dL x y))
 cases hs : bZ a with
 | none => exact .no bE (Ev.ret _) rfl
 | some x =>
  cases ht : bZ b with
  | none => exact .no bE (Ev.ret _) rfl
  | some y =>
   obtain ⟨_, rfl⟩ := nE ha hs
   obtain ⟨_, rfl⟩ := nE hb ht
   exact .yes (bB (dL x y)) (Ev.ret _) rfl
theorem akW {l : List Ty} (hl : ∀ t ∈ l, Top t) (hn : LenOk 35 l) (nm : Str) (m : Int) (ty : Ty) (ks : List Tm) : Row (fun n => gL n (.mk 35 nm m ty ks) l) (kD 35 l) := by
 obtain ⟨a, b, rfl⟩ := dR l (hn.two rfl)
 have ha := hl a (by simp)
 have hb := hl b (by simp)
 refine Row.eta (f := fun n => fJ n 35 [a, b]) ?_
 show Row _ (bY ((fM a).isSome && bX a b) a)
 simp only [fJ, Tm.op, gF, jK, Option.bind_some, Int.reduceBEq, cond_true, cond_false, mU, vS _ ha]
 cases hr : fM a with
 | none => exact .no bE (Ev.ret _) rfl
 | some x =>
  obtain ⟨x, y⟩ := x
  obtain ⟨_, _, rfl⟩ := o9 ha hr
  simp only [vU, sN, Option.bind_some, Option.isSome_some, Bool.not_true, cond_false]
  exact .of _ (bX (bB (dL x y)) b) (Ev.bind (ig _ _) (Ev.ret _)) rfl
theorem alE {l : List Ty} (hl : ∀ t ∈ l, Top t) (hn : LenOk 36 l) (nm : Str) (m : Int) (ty : Ty) (ks : List Tm) : Row (fun n => gL n (.mk 36 nm m ty ks) l) (kD 36 l) := by
 obtain ⟨a, b, rfl⟩ := dR l (hn.two rfl)
 have ha := hl a (by simp)
 have hb := hl b (by simp)
 refine Row.eta (f := fun n => fJ n 36 [a, b]) ?_
 show Row _ ((fM a).bind fun x => (fM b).bind fun y => bY (bX x.2 y.1) (bB (dL x.1 y.2)))
 simp only [fJ, Tm.op, gF, jK, Option.bind_some, Int.reduceBEq, cond_true, cond_false, mU, vS _ ha, vS _ hb]
 cases hr : fM a with
 | none => exact .no bE (Ev.ret _) rfl
 | some x =>
  obtain ⟨x, y⟩ := x
  obtain ⟨_, _, rfl⟩ := o9 ha hr
  simp only [vU, sN, Option.bind_some, Option.isSome_some, Bool.not_true, cond_false]
  cases hq : fM b with
  | none => exact .no bE (Ev.ret _) rfl
  | some z =>
   obtain ⟨z, u⟩ := z
   obtain ⟨_, _, rfl⟩ := o9 hb hq
   simp only [vU, sN, Option.bind_some, Option.isSome_some, Bool.not_true, cond_false]
   refine .of (cond (bX y z) (bB (dL x u)) bE) (bX y z) (Ev.bind (a := !(bX y z)) (Ev.bind (ig y z) (Ev.ret _)) ?_) ?_
   ·cases bX y z
    ·exact Ev.ret _
    ·exact Ev.ret _
   ·show bY (bX y z) _ = _
    cases bX y z <;> rfl
theorem ac6 {op : Int} (ho : op = 37 ∨ op = 38) {l : List Ty} (hl : ∀ t ∈ l, Top t) (hn : LenOk op l) (nm : Str) (m : Int) (ty : Ty) (ks : List Tm) : Row (fun n => gL n (.mk op nm m ty ks) l) (kD op l) := by
 rcases ho with rfl | rfl <;>
 ·obtain ⟨a, b, rfl⟩ := dR l (hn.two rfl)
  have ha := hl a (by simp)
  have hb := hl b (by simp)
  refine Row.eta (f := fun n => fJ n _ [a, b]) ?_
  show Row _ ((bZ a).bind fun x => (fM b).bind fun y => bY (bX x y.1) b)
  simp only [fJ, Tm.op, gF, jK, Option.bind_some, Int.reduceBEq, cond_true, cond_false, mU, vS _ hb]
  cases hr : fM b with
  | none =>
   refine .no bE (Ev.ret _) ?_
   cases bZ a <;> rfl
  | some x =>
   obtain ⟨x, y⟩ := x
   obtain ⟨_, _, rfl⟩ := o9 hb hr
   simp only [vU, sN, Option.bind_some, Option.isSome_some, Bool.not_true, cond_false]
   show Row _ ((bZ a).bind fun z => bY (bX z x) (bB (dL x y)))
   rw [adO ha]
   exact .of _ _ (Ev.bind (ig _ _) (Ev.ret _)) rfl
theorem acJ {op : Int} (ho : op = 39 ∨ op = 40) {l : List Ty} (hl : ∀ t ∈ l, Top t) (hn : LenOk op l) (nm : Str) (m : Int) (ty : Ty) (ks : List Tm) : Row (fun n => gL n (.mk op nm m ty ks) l) (kD op l) := by
 rcases ho with rfl | rfl <;>
 ·obtain ⟨a, b, rfl⟩ := dR l (hn.two rfl)
  have ha := hl a (by simp)
  have hb := hl b (by simp)
  refine Row.eta (f := fun n => fJ n _ [a, b]) ?_
  show Row _ ((fM a).bind fun x => (bZ b).bind fun y => bY (bX y x.2) a)
  simp only [fJ, Tm.op, gF, jK, Option.bind_some, Int.reduceBEq, cond_true, cond_false, mU, vS _ ha]
  cases hr : fM a with
  | none => exact .no bE (Ev.ret _) rfl
  | some x =>
   obtain ⟨x, y⟩ := x
   obtain ⟨_, _, rfl⟩ := o9 ha hr
   simp only [vU, sN, Option.bind_some, Option.isSome_some, Bool.not_true, cond_false]
   show Row _ ((bZ b).bind fun z => bY (bX z y) (bB (dL x y)))
   rw [adO hb]
   exact .of _ _ (Ev.bind (ig _ _) (Ev.ret _)) rfl
theorem EZ {op : Int} (ho : op = 41 ∨ op = 42 ∨ op = 43 ∨ op = 44 ∨ op = 45) {l : List Ty} (hl : ∀ t ∈ l, Top t) (hn : LenOk op l) (nm : Str) (m : Int) (ty : Ty) (ks : List Tm) : Row (fun n => gL n (.mk op nm m ty ks) l) (kD op l) := by
 rcases ho with rfl | rfl | rfl | rfl | rfl <;>
 ·obtain ⟨a, b, rfl⟩ := dR l (hn.two rfl)
  have ha := hl a (by simp)
  have hb := hl b (by simp)
  show Row (fun n => ((((idx [a, b] 0).bind fun x38 => ((gD n x38).bind fun x39 => (cond (!x39) (some true) ((idx [a, b] 1).bind fun x40 => ((gD n x40).bind fun x41 => some (!x41)))))) : Option Bool).bind fun s10 => (cond s10 (some ((Ty.mk 0 ([] : Str) ([])), false)) ((idx [a, b] 0).bind fun x34 => ((idx x34.kids 0).bind fun x35 => ((idx [a, b] 1).bind fun x36 => ((idx x36.kids 0).bind fun x37 => (((cond true (some ([(Ty.mk 5 ([] : Str) ([(Ty.mk 4 ([] : Str) ([x35, x37]))]))])) (some ([(Ty.mk 4 ([] : Str) ([x35, x37]))]))) : Option (List Ty)).bind fun s11 => some ((Ty.mk 5 ([] : Str) s11), true))))))))) _
  simp only [gF, jK, Option.bind_some, rC _ ha, rC _ hb]
  show Row _ ((bZ a).bind fun x => (bZ b).map fun y => bB (bB (dL x y)))
  cases hs : bZ a with
  | none => exact .no bE (Ev.ret _) rfl
  | some x =>
   cases ht : bZ b with
   | none => exact .no bE (Ev.ret _) rfl
   | some y =>
    obtain ⟨_, rfl⟩ := nE ha hs
    obtain ⟨_, rfl⟩ := nE hb ht
    exact .yes (bB (bB (dL x y))) (Ev.ret _) rfl
theorem aj3 {l : List Ty} (hl : ∀ t ∈ l, Top t) (hn : LenOk 46 l) (nm : Str) (m : Int) (ty : Ty) (ks : List Tm) : Row (fun n => gL n (.mk 46 nm m ty ks) l) (kD 46 l) := by
 obtain ⟨a, rfl⟩ := rR l (hn.one rfl)
 have ha := hl a (by simp)
 show Row (fun n => ((idx [a] 0).bind fun x25 => ((idx [a] 0).bind fun x26 => ((gD n x26).bind fun x27 => some ((Ty.mk 5 ([] : Str) ([x25])), x27))))) _
 simp only [gF, jK, Option.bind_some, rC _ ha]
 show Row _ ((bZ a).map fun x => bB (bB x))
 cases hs : bZ a with
 | none => exact .no (bB a) (Ev.ret _) rfl
 | some e =>
  obtain ⟨_, rfl⟩ := nE ha hs
  exact .yes (bB (bB e)) (Ev.ret _) rfl
theorem akO {l : List Ty} (hl : ∀ t ∈ l, Top t) (hn : LenOk 47 l) (nm : Str) (m : Int) (ty : Ty) (ks : List Tm) : Row (fun n => gL n (.mk 47 nm m ty ks) l) (kD 47 l) := by
 obtain ⟨a, rfl⟩ := rR l (hn.one rfl)
 have ha := hl a (by simp)
 show Row (fun n => ((idx [a] 0).bind fun x21 => ((gD n x21).bind fun x22 => some ((Ty.mk 1 ([] : Str) ([])), x22)))) _
 simp only [gF, jK, Option.bind_some, rC _ ha]
 show Row _ ((bZ a).map fun _ => iw)
 cases bZ a with
 | none => exact .no iw (Ev.ret _) rfl
 | some e => exact .yes iw (Ev.ret _) rfl
theorem acM {op : Int} (ho : op = 48 ∨ op = 49) {l : List Ty} (hl : ∀ t ∈ l, Top t) (hn : LenOk op l) (nm : Str) (m : Int) (ty : Ty) (ks : List Tm) : Row (fun n => gL n (.mk op nm m ty ks) l) (kD op l) := by
 rcases ho with rfl | rfl <;>
 ·obtain ⟨a, rfl⟩ := rR l (hn.one rfl)
  have ha := hl a (by simp)
  show Row (fun n => ((idx [a] 0).bind fun x23 => ((bL n x23 (Ty.mk 5 ([] : Str) ([(Ty.mk 1 ([] : Str) ([]))]))).bind fun x24 => some ((Ty.mk 1 ([] : Str) ([])), x24)))) _
  simp only [gF, Option.bind_some]
  show Row _ ((bZ a).bind fun x => bY (x.kind == 1) iw)
  have e : ((bZ a).bind fun x => bY (x.kind == 1) iw) = (bZ a).bind fun x => bY (bX x iw) iw := by
   cases hs : bZ a with
   | none => rfl
   | some e => simp only [Option.bind_some]; rw [adX (.inr (nE ha hs).1)]
  rw [e, adO ha]
  exact .of iw _ (Ev.bind (ig a (bB iw)) (Ev.ret _)) rfl
theorem alR {l : List Ty} (hl : ∀ t ∈ l, Top t) (hn : LenOk 50 l) (nm : Str) (m : Int) (ty : Ty) (ks : List Tm) : Row (fun n => gL n (.mk 50 nm m ty ks) l) (kD 50 l) := by
 obtain ⟨a, rfl⟩ := rR l (hn.one rfl)
 have ha := hl a (by simp)
 refine Row.eta (f := fun n => fJ n 50 [a]) ?_
 show Row _ ((fM a).map fun x => bB x.1)
 simp only [fJ, Tm.op, gF, jK, Option.bind_some, Int.reduceBEq, cond_true, cond_false, mU, vS _ ha]
 cases hr : fM a with
 | none => exact .no bE (Ev.ret _) rfl
 | some x =>
  obtain ⟨x, y⟩ := x
  obtain ⟨_, _, rfl⟩ := o9 ha hr
  simp only [vU, sN, Option.bind_some, Option.isSome_some, Bool.not_true, cond_false]
  exact .yes (bB x) (Ev.ret _) rfl
theorem alA {l : List Ty} (hl : ∀ t ∈ l, Top t) (hn : LenOk 51 l) (nm : Str) (m : Int) (ty : Ty) (ks : List Tm) : Row (fun n => gL n (.mk 51 nm m ty ks) l) (kD 51 l) := by
 obtain ⟨a, rfl⟩ := rR l (hn.one rfl)
 have ha := hl a (by simp)
 refine Row.eta (f := fun n => fJ n 51 [a]) ?_
 show Row _ ((fM a).map fun x => bB x.2)
 simp only [fJ, Tm.op, gF, jK, Option.bind_some, Int.reduceBEq, cond_true, cond_false, mU, vS _ ha]
 cases hr : fM a with
 | none => exact .no bE (Ev.ret _) rfl
 | some x =>
  obtain ⟨x, y⟩ := x
  obtain ⟨_, _, rfl⟩ := o9 ha hr
  simp only [vU, sN, Option.bind_some, Option.isSome_some, Bool.not_true, cond_false]
  exact .yes (bB y) (Ev.ret _) rfl
theorem alQ {l : List Ty} (hl : ∀ t ∈ l, Top t) (hn : LenOk 52 l) (nm : Str) (m : Int) (ty : Ty) (ks : List Tm) : Row (fun n => gL n (.mk 52 nm m ty ks) l) (kD 52 l) := by
 obtain ⟨a, rfl⟩ := rR l (hn.one rfl)
 have ha := hl a (by simp)
 refine Row.eta (f := fun n => fJ n 52 [a]) ?_
 show Row _ ((fM a).map fun x => bB (dL x.2 x.1))
 simp only [fJ, Tm.op, gF, jK, Option.bind_some, Int.reduceBEq, cond_true, cond_false, mU, vS _ ha]
 cases hr : fM a with
 | none => exact .no bE (Ev.ret _) rfl
 | some x =>
  obtain ⟨x, y⟩ := x
  obtain ⟨_, _, rfl⟩ := o9 ha hr
  simp only [vU, sN, Option.bind_some, Option.isSome_some, Bool.not_true, cond_false]
  exact .yes (bB (dL y x)) (Ev.ret _) rfl
theorem aj2 {l : List Ty} (hl : ∀ t ∈ l, Top t) (hn : LenOk 53 l) (nm : Str) (m : Int) (ty : Ty) (ks : List Tm) : Row (fun n => gL n (.mk 53 nm m ty ks) l) (kD 53 l) := by
 obtain ⟨a, b, rfl⟩ := dR l (hn.two rfl)
 have ha := hl a (by simp)
 have hb := hl b (by simp)
 refine Row.eta (f := fun n => fJ n 53 [a, b]) ?_
 show Row _ ((fM a).bind fun x => (bZ b).bind fun y => bY (bX y x.1) (bB x.2))
 simp only [fJ, Tm.op, gF, jK, Option.bind_some, Int.reduceBEq, cond_true, cond_false, mU, vS _ ha]
 cases hr : fM a with
 | none => exact .no bE (Ev.ret _) rfl
 | some x =>
  obtain ⟨x, y⟩ := x
  obtain ⟨_, _, rfl⟩ := o9 ha hr
  simp only [vU, sN, Option.bind_some, Option.isSome_some, Bool.not_true, cond_false]
  show Row _ ((bZ b).bind fun z => bY (bX z x) (bB y))
  rw [adO hb]
  exact .of _ _ (Ev.bind (ig _ _) (Ev.ret _)) rfl
theorem akN {l : List Ty} (hl : ∀ t ∈ l, Top t) (hn : LenOk 54 l) (nm : Str) (m : Int) (ty : Ty) (ks : List Tm) : Row (fun n => gL n (.mk 54 nm m ty ks) l) (kD 54 l) := by
 obtain ⟨a, b, rfl⟩ := dR l (hn.two rfl)
 have ha := hl a (by simp)
 have hb := hl b (by simp)
 refine Row.eta (f := fun n => fJ n 54 [a, b]) ?_
 show Row _ ((fM a).bind fun x => bY (bX b x.1) x.2)
 simp only [fJ, Tm.op, gF, jK, Option.bind_some, Int.reduceBEq, cond_true, cond_false, mU, vS _ ha]
 cases hr : fM a with
 | none => exact .no bE (Ev.ret _) rfl
 | some x =>
  obtain ⟨x, y⟩ := x
  obtain ⟨_, _, rfl⟩ := o9 ha hr
  simp only [vU, sN, Option.bind_some, Option.isSome_some, Bool.not_true, cond_false]
  exact .of _ _ (Ev.bind (ig _ _) (Ev.ret _)) rfl
theorem akv {l : List Ty} (hl : ∀ t ∈ l, Top t) (hn : LenOk 55 l) (nm : Str) (m : Int) (ty : Ty) (ks : List Tm) : Row (fun n => gL n (.mk 55 nm m ty ks) l) (kD 55 l) := by
 obtain ⟨a, b, rfl⟩ := dR l (hn.two rfl)
 have ha := hl a (by simp)
 have hb := hl b (by simp)
 show Row (fun n => ((((idx [a, b] 0).bind fun x11 => ((idx [a, b] 0).bind fun x12 => ((gD n x12).bind fun x13 => (cond x13 ((idx [a, b] 1).bind fun x14 => some ((x14.kind == 2), x11.kind, x11.name, x11.kids)) (some (false, x11.kind, x11.name, x11.kids)))))) : Option (Bool × Int × Str × (List Ty))).bind fun s4 => some ((Ty.mk s4.2.1 s4.2.2.1 s4.2.2.2), s4.1))) _
 simp only [gF, jK, Option.bind_some, rC _ ha]
 show Row _ (bY ((bZ a).isSome && b.kind == 2) a)
 cases bZ a with
 | none => exact .no a (by simp only [Option.isSome_none, cond_false, Option.bind_some, mU]; exact Ev.ret _) rfl
 | some e => exact .of a (b.kind == 2) (by simp only [Option.isSome_some, cond_true, Option.bind_some, mU]; exact Ev.ret _) rfl
theorem akm {l : List Ty} (hl : ∀ t ∈ l, Top t) (hn : LenOk 56 l) (nm : Str) (m : Int) (ty : Ty) (ks : List Tm) : Row (fun n => gL n (.mk 56 nm m ty ks) l) (kD 56 l) := by
 obtain ⟨a, b, rfl⟩ := dR l (hn.two rfl)
 have ha := hl a (by simp)
 have hb := hl b (by simp)
 show Row (fun n => ((((idx [a, b] 0).bind fun x18 => ((gD n x18).bind fun x19 => (cond (!x19) (some true) ((idx [a, b] 1).bind fun x20 => some (x20.kind == 2))))) : Option Bool).bind fun s5 => (cond s5 (some ((Ty.mk 0 ([] : Str) ([])), false)) ((idx [a, b] 0).bind fun x15 => ((idx x15.kids 0).bind fun x16 => ((idx [a, b] 1).bind fun x17 => some ((Ty.mk 5 ([] : Str) ([(Ty.mk 4 ([] : Str) ([x16, x17]))])), true))))))) _
 simp only [gF, jK, Option.bind_some, rC _ ha]
 show Row _ ((bZ a).bind fun x => bY (b.kind != 2) (bB (dL x b)))
 cases hs : bZ a with
 | none => exact .no bE (Ev.ret _) rfl
 | some e =>
  obtain ⟨_, rfl⟩ := nE ha hs
  simp only [Option.isSome_some, Bool.not_true, cond_false, Option.bind_some, bne]
  cases b.kind == 2 with
  | true => exact .no bE (Ev.ret _) rfl
  | false => exact .yes (bB (dL e b)) (Ev.ret _) rfl
theorem ama {op : Int} (h1 : 1 ≤ op) (h2 : op ≤ 56) (h20 : op ≠ 20) (h29 : op ≠ 29) {l : List Ty} (hl : ∀ t ∈ l, Top t) (hn : LenOk op l) (nm : Str) (m : Int) (ty : Ty) (ks : List Tm) : Row (fun n => gL n (.mk op nm m ty ks) l) (kD op l) := by
 rcases ahz h1 h2 with rfl | rfl | rfl | rfl | rfl | rfl | rfl | rfl | rfl | rfl | rfl | rfl | rfl | rfl | rfl | rfl | rfl | rfl | rfl | rfl | rfl | rfl | rfl | rfl | rfl | rfl | rfl | rfl | rfl | rfl | rfl | rfl | rfl | rfl | rfl | rfl | rfl | rfl | rfl | rfl | rfl | rfl | rfl | rfl | rfl | rfl | rfl | rfl | rfl | rfl | rfl | rfl | rfl | rfl | rfl | rfl
 ·exact afI (by decide) hl hn nm m ty ks
 ·exact afI (by decide) hl hn nm m ty ks
 ·exact G6 (by decide) hl hn nm m ty ks
 ·exact G6 (by decide) hl hn nm m ty ks
 ·exact G6 (by decide) hl hn nm m ty ks
 ·exact G6 (by decide) hl hn nm m ty ks
 ·exact G6 (by decide) hl hn nm m ty ks
 ·exact aeT (by decide) hl hn nm m ty ks
 ·exact aeT (by decide) hl hn nm m ty ks
 ·exact acy (by decide) hl hn nm m ty ks
 ·exact acy (by decide) hl hn nm m ty ks
 ·exact Jt (by decide) hl hn nm m ty ks
 ·exact Jt (by decide) hl hn nm m ty ks
 ·exact Jt (by decide) hl hn nm m ty ks
 ·exact Jt (by decide) hl hn nm m ty ks
 ·exact acP (by decide) hl hn nm m ty ks
 ·exact acP (by decide) hl hn nm m ty ks
 ·exact akH hl hn nm m ty ks
 ·exact amn hl hn nm m ty ks
 ·exact absurd rfl h20
 ·exact Cx (by decide) hl hn nm m ty ks
 ·exact Cx (by decide) hl hn nm m ty ks
 ·exact Cx (by decide) hl hn nm m ty ks
 ·exact Cx (by decide) hl hn nm m ty ks
 ·exact Cx (by decide) hl hn nm m ty ks
 ·exact Cx (by decide) hl hn nm m ty ks
 ·exact alM hl hn nm m ty ks
 ·exact akV hl hn nm m ty ks
 ·exact absurd rfl h29
 ·exact alv hl hn nm m ty ks
 ·exact O5 (by decide) hl hn nm m ty ks
 ·exact O5 (by decide) hl hn nm m ty ks
 ·exact O5 (by decide) hl hn nm m ty ks
 ·exact alL hl hn nm m ty ks
 ·exact akW hl hn nm m ty ks
 ·exact alE hl hn nm m ty ks
 ·exact ac6 (by decide) hl hn nm m ty ks
 ·exact ac6 (by decide) hl hn nm m ty ks
 ·exact acJ (by decide) hl hn nm m ty ks
 ·exact acJ (by decide) hl hn nm m ty ks
 ·exact EZ (by decide) hl hn nm m ty ks
 ·exact EZ (by decide) hl hn nm m ty ks
 ·exact EZ (by decide) hl hn nm m ty ks
 ·exact EZ (by decide) hl hn nm m ty ks
 ·exact EZ (by decide) hl hn nm m ty ks
 ·exact aj3 hl hn nm m ty ks
 ·exact akO hl hn nm m ty ks
 ·exact acM (by decide) hl hn nm m ty ks
 ·exact acM (by decide) hl hn nm m ty ks
 ·exact alR hl hn nm m ty ks
 ·exact alA hl hn nm m ty ks
 ·exact alQ hl hn nm m ty ks
 ·exact aj2 hl hn nm m ty ks
 ·exact akN hl hn nm m ty ks
 ·exact akv hl hn nm m ty ks
 ·exact akm hl hn nm m ty ks
end Abs
end Go.Proofs.YtiiaccpcoclklaaGreat
namespace Go.Proofs.YtiiaccpcoclklaaGreat
namespace Abs
open Go
theorem ajF (env : Env) (sc : List Decl) (s : Str) : Ev (fun n => uV n env sc.reverse s) (match jX env sc s with | some t => (t, true) | none => (bE, false)) := by
 have key : ∀ (sc post : List Decl) (n k : Nat), sc.length + 1 ≤ k → rE n (sc.reverse ++ post) s k ((sc.length : Int) - 1) = some (match sc.find? (fun d => d.name == s) with | some d => .rt (d.ty, true) | none => .nx ()) := by
  intro sc
  induction sc with
  | nil =>
   intro post n k hk
   cases k with
   | zero => simp at hk
   | succ k => rfl
  | cons d sc ih =>
   intro post n k hk
   cases k with
   | zero => simp at hk
   | succ k =>
    have e : (((d :: sc).length : Int) - 1) = (sc.reverse.length : Int) := by simp
    have e2 : (d :: sc).reverse ++ post = sc.reverse ++ d :: post := by simp
    rw [e, e2]
    show cond (decide ((0 : Int) ≤ (sc.reverse.length : Int))) ((idx (sc.reverse ++ d :: post) (sc.reverse.length : Int)).bind _) _ = _
    rw [decide_eq_true (by omega), zC]
    simp only [cond_true, Option.bind_some, List.find?_cons]
    cases hd : d.name == s with
    | true => rfl
    | false =>
     simp only [cond_false]
     have := ih (d :: post) n k (by simp at hk; omega)
     rw [List.length_reverse]
     exact this
 unfold uV
 have h1 : Ev (fun n => rE n sc.reverse s n ((sc.reverse.length : Int) - 1)) (match sc.find? (fun d => d.name == s) with | some d => .rt (d.ty, true) | none => .nx ()) := ⟨sc.length + 1, fun n hn => by
  have := key sc [] n n hn
  rw [List.append_nil] at this
  rw [List.length_reverse]
  exact this⟩
 refine Ev.bind h1 ?_
 unfold jX
 cases sc.find? (fun d => d.name == s) with
 | some d => exact Ev.ret _
 | none => exact KF env s
def ar7 (env : Env) (t : Tm) : Prop := ∀ (d : Int) (sc : List Decl), Wf d t → GoodS sc → (sc.length : Int) < d → Ev (fun n => sO n env sc.reverse t) (F3 (bC env sc t))
def Yz (op : Int) (nm : Str) (sc : List Decl) (i : Int) (l : List Ty) : Option (List Decl) := iy (bD op && i == 1) nm (l.headD bE) sc
def stR (env : Env) (op : Int) (nm : Str) (sc : List Decl) (i : Int) (x : Tm) (l : List Ty) : LR (List Ty) (Ty × List Int × Int) := match Yz op nm sc i l with
 | none => .rt (bE, [], 7)
 | some sc' => match bC env sc' x with
  | .er e p => .rt (bE, i :: p, e)
  | .ok ty => .nx (l ++ [ty])
def aaM (acc : List Ty) (r : KR) : LR (List Ty) (Ty × List Int × Int) := match r with | .ok l => .nx (acc ++ l) | .er e p => .rt (bE, p, e)
theorem afJ (env : Env) (op : Int) (hb : bD op = false) (nm : Str) (sc : List Decl) : ∀ (ts : List Tm) (i : Int) (acc : List Ty), dZ (stR env op nm sc) (fun s => s) i ts acc = aaM acc (dA env sc false nm i ts)
 | [], i, acc => by simp [dZ, dA, aaM]
 | t :: ts, i, acc => by
  simp only [dZ, stR, Yz, hb, Bool.false_and, dA]
  simp only [iy, cond_false]
  cases bC env sc t with
  | er e p => rfl
  | ok ty =>
   simp only
   rw [afJ env op hb nm sc ts (i + 1) (acc ++ [ty])]
   cases dA env sc false nm (i + 1) ts with
   | er e p => rfl
   | ok l => simp [aaM]
theorem amV (env : Env) (op : Int) (hb : bD op = true) (nm : Str) (sc : List Decl) (x y : Tm) : dZ (stR env op nm sc) (fun s => s) 0 [x, y] [] = aaM [] (dA env sc true nm 0 [x, y]) := by
 simp only [dZ, stR, Yz, hb, Bool.true_and, dA]
 simp only [show ((0 : Int) == 1) = false from rfl, show ((0 : Int) + 1 == 1) = true from rfl]
 simp only [iy, cond_false, cond_true]
 cases bC env sc x with
 | er e p => rfl
 | ok ty =>
  simp only [List.nil_append, List.headD_cons]
  cases (bZ ty).map fun e => (⟨nm, e⟩ :: sc : List Decl) with
  | none => rfl
  | some sc' =>
   simp only
   cases bC env sc' y with
   | er e p => rfl
   | ok u => rfl
theorem asr {env : Env} (hv : bJ env = true) : ∀ t : Tm, ar7 env t := Tm.ind fun op nm m ty ks ih d sc hw hs hp => by
 obtain ⟨hnode, hd, hks, hkw⟩ := hw.node
 obtain ⟨hop, h20k, h29k, hlen, hbk⟩ := jL hnode
 refine Ev.succ ?_
 show Ev (fun n => wQ n (fun p0 p1 p2 => sO n p0 p1 p2) env sc.reverse (.mk op nm m ty ks)) _
 unfold wQ
 simp only [Tm.op, Tm.name, Tm.ty, bC]
 cases h20 : (op == 20) with
 | true =>
  simp only [cond_true]
  refine Ev.bind (ajF env sc nm) ?_
  cases jX env sc nm with
  | none => exact Ev.ret _
  | some t => exact Ev.ret _
 | false =>
  simp only [cond_false]
  refine Ev.bind (a := (op == 29 && !(knows env ty))) ?_ ?_
  ·cases h29 : (op == 29) with
   | true =>
    obtain ⟨_, hvt, _⟩ := h29k (by simpa using h29)
    exact Ev.bind (Nf env hvt) (Ev.ret _)
   | false => exact Ev.ret _
  cases (op == 29 && !(knows env ty)) with
  | true => exact Ev.ret _
  | false =>
   simp only [cond_false]
   have hloop := vZ ks (fun n k i (s : List Ty) => zI n (fun p0 p1 p2 => sO n p0 p1 p2) env sc.reverse (.mk op nm m ty ks) k (s, i))
    (fun n i x s => (((((jh n op).bind fun (x14 : Bool) => (cond x14 (some (i == 1)) (some false))) : Option Bool).bind fun (s5 : Bool) => (cond s5 ((idx s 0).bind fun (x8 : Ty) => ((gD n x8).bind fun (x9 : Bool) => (cond (!x9) (some (.rt ((Ty.mk 0 ([] : Str) ([])), ([] : List Int), 7))) ((app 64 ([] : List Decl) sc.reverse).bind fun (x10 : List Decl) => ((idx s 0).bind fun (x11 : Ty) => ((idx x11.kids 0).bind fun (x12 : Ty) => ((app 64 x10 ([(Decl.mk nm x12)])).bind fun (x13 : List Decl) => some (.nx x13)))))))) (some (.nx sc.reverse)))) : Option (LR (List Decl) (Ty × (List Int) × Int))).bind (LR.el (fun (s4 : List Decl) => ((sO n env s4 x).bind fun (x5 : Ty × (List Int) × Int) => (cond (x5.2.2 != 0) ((app 8 ([i]) x5.2.1).bind fun (x6 : List Int) => some (.rt ((Ty.mk 0 ([] : Str) ([])), x6, x5.2.2))) ((app 48 s ([x5.1])).bind fun (x7 : List Ty) => some (.nx x7))))) (fun r => some (.rt r))))
    (stR env op nm sc) (fun s => s) (fun i suf s => (∀ t ∈ s, Top t) ∧ s.length + suf.length ≤ 2000 ∧ (s.length : Int) = i)
    (fun n k s => by
     show cond (decide ((ks.length : Int) < (ks.length : Int))) _ _ = _
     rw [decide_eq_false (by omega)]
     rfl)
    (fun n k i x s hx hi => by
     show cond (decide (i < (ks.length : Int))) _ _ = _
     rw [hi]
     simp only [cond_true, Tm.op, Tm.name, Tm.kids, hx, Option.bind_some]
     conv => rhs; rw [Option.bind_assoc]
     congr 1
     funext r
     cases r with
     | rt r => rfl
     | nx s4 =>
      simp only [LR.el]
      conv => rhs; rw [Option.bind_assoc]
      congr 1
      funext x5
      cases x5.2.2 != 0 with
      | true =>
       simp only [cond_true, Option.bind_assoc]
       rfl
      | false =>
       simp only [cond_false, Option.bind_assoc]
       rfl)
    (fun i x suf s hx hI hidx => by
     obtain ⟨h1, h2, h3⟩ := hI
     simp only [List.length_cons] at h2
     refine ⟨?_, fun s' hs' => ?_⟩
     ·have hsc : Ev (fun n => ((((jh n op).bind fun (x14 : Bool) => (cond x14 (some (i == 1)) (some false))) : Option Bool).bind fun (s5 : Bool) => (cond s5 ((idx s 0).bind fun (x8 : Ty) => ((gD n x8).bind fun (x9 : Bool) => (cond (!x9) (some (.rt ((Ty.mk 0 ([] : Str) ([])), ([] : List Int), 7))) ((app 64 ([] : List Decl) sc.reverse).bind fun (x10 : List Decl) => ((idx s 0).bind fun (x11 : Ty) => ((idx x11.kids 0).bind fun (x12 : Ty) => ((app 64 x10 ([(Decl.mk nm x12)])).bind fun (x13 : List Decl) => some (.nx x13)))))))) (some (.nx sc.reverse)))))
        ((match Yz op nm sc i s with | none => .rt (bE, [], 7) | some sc' => .nx sc'.reverse : LR (List Decl) (Ty × (List Int) × Int))) := by
       simp only [qF, Option.bind_some]
       refine Ev.bind (a := bD op && i == 1) ?_ ?_
       ·cases bD op
        ·exact Ev.ret _
        ·exact Ev.ret _
       ·unfold Yz iy
        cases hbi : (bD op && i == 1) with
        | false => exact Ev.ret _
        | true =>
         simp only [Bool.and_eq_true, beq_iff_eq] at hbi
         obtain ⟨a, l, rfl⟩ := KJ s (by rintro rfl; rw [hbi.2] at h3; simp at h3)
         have ha := h1 a (by simp)
         simp only [cond_true, gF, Option.bind_some, rC _ ha, List.headD_cons]
         cases he : bZ a with
         | none => exact Ev.ret _
         | some e =>
          obtain ⟨_, rfl⟩ := nE ha he
          have hr : sc.reverse.length = sc.length := List.length_reverse
          simp only [Option.isSome_some, Bool.not_true, cond_false]
          rw [eD (by simp; omega) (by omega)]
          simp only [Option.bind_some, List.nil_append]
          show Ev (fun n => (app 64 sc.reverse [Decl.mk nm e]).bind _) _
          rw [eD (by simp; omega) (by omega)]
          simp only [Option.bind_some, Option.map_some, List.reverse_cons]
          exact Ev.ret _
      refine Ev.bind hsc ?_
      unfold stR
      cases hsR : Yz op nm sc i s with
      | none => exact Ev.ret _
      | some sc' =>
       simp only [LR.el]
       have hg : GoodS sc' ∧ (sc'.length : Int) < d + 1 := by
        unfold Yz at hsR
        have htop : bD op && i == 1 → Top (s.headD bE) := fun hbi => by
         simp only [Bool.and_eq_true, beq_iff_eq] at hbi
         obtain ⟨a, l, rfl⟩ := KJ s (by rintro rfl; rw [hbi.2] at h3; simp at h3)
         exact h1 a (by simp)
        cases hbi : (bD op && i == 1) with
        | false => rw [hbi] at hsR; cases hsR; exact ⟨hs, by omega⟩
        | true =>
         rw [hbi] at hsR
         refine ⟨Gt (htop hbi) hs hsR, ?_⟩
         unfold iy at hsR
         simp only [cond_true] at hsR
         cases he : bZ (s.headD bE) with
         | none => rw [he] at hsR; cases hsR
         | some e => rw [he] at hsR; cases hsR; simp; omega
       refine Ev.bind (ih x hx (d + 1) sc' (hkw x hx) hg.1 hg.2) ?_
       cases ht : bC env sc' x with
       | er e p =>
        have he := EG x sc' e p ht
        have e0 : (e != 0) = true := by simpa using he
        have hpl := QF (hkw x hx) sc' e p ht
        simp only [F3, e0, cond_true]
        rw [eD (by simp; omega) (by omega)]
        exact Ev.ret _
       | ok u =>
        simp only [F3, show ((0 : Int) != 0) = false from rfl, cond_false]
        rw [eD (by simp; omega) (by omega)]
        exact Ev.ret _
     ·unfold stR at hs'
      cases hsR : Yz op nm sc i s with
      | none => rw [hsR] at hs'; cases hs'
      | some sc' =>
       rw [hsR] at hs'
       simp only at hs'
       have hg : GoodS sc' := by
        unfold Yz at hsR
        cases hbi : (bD op && i == 1) with
        | false => rw [hbi] at hsR; cases hsR; exact hs
        | true =>
         rw [hbi] at hsR
         simp only [Bool.and_eq_true, beq_iff_eq] at hbi
         obtain ⟨a, l, rfl⟩ := KJ s (by rintro rfl; rw [hbi.2] at h3; simp at h3)
         exact Gt (h1 a (by simp)) hs hsR
       cases ht : bC env sc' x with
       | er e p => rw [ht] at hs'; cases hs'
       | ok u =>
        rw [ht] at hs'
        cases hs'
        refine ⟨fun t h => ?_, ?_, ?_⟩
        ·rcases List.mem_append.1 h with h | h
         ·exact h1 t h
         ·rw [List.mem_singleton.1 h]; exact Cr hv hg ht
        ·simp only [List.length_append, List.length_singleton]; omega
        ·simp only [List.length_append, List.length_singleton, Int.natCast_add, Int.natCast_one]; omega) (s0 := []) ⟨fun t h => (by cases h), by simp; omega, rfl⟩
   have hrun : dZ (stR env op nm sc) (fun s => s) 0 ks [] = aaM [] (dA env sc (bD op) nm 0 ks) := by
    cases hb : bD op with
    | false => exact afJ env op hb nm sc ks 0 []
    | true =>
     obtain ⟨x, y, rfl⟩ := hbk hb
     exact amV env op hb nm sc x y
   rw [hrun] at hloop
   refine Ev.bind hloop ?_
   cases hk : dA env sc (bD op) nm 0 ks with
   | er e p => exact Ev.ret _
   | ok l =>
    simp only [aaM, LR.el, List.nil_append]
    obtain ⟨k1, k2, k3⟩ := Ru hv ks sc (bD op) nm 0 l hs hk
    have hrow : Row (fun n => gL n (.mk op nm m ty ks) l) (cond (op == 29) (some (bB ty)) (kD op l)) := by
     cases h29 : (op == 29) with
     | true =>
      have e : op = 29 := by simpa using h29
      subst e
      exact Row.yes (bB ty) (Ev.ret _) rfl
     | false => exact ama hop.1 hop.2 (by simpa using h20) (by simpa using h29) k2 (hlen l k1) nm m ty ks
    obtain ⟨r, hr1, hr2⟩ := hrow
    refine Ev.bind hr1 ?_
    unfold anX at hr2
    cases ho : (cond (op == 29) (some (bB ty)) (kD op l)) with
    | none =>
     rw [ho] at hr2
     simp only at hr2
     simp only [hr2, Bool.not_false, cond_true, qE]
     exact Ev.ret _
    | some t =>
     rw [ho] at hr2
     simp only at hr2
     subst hr2
     simp only [Bool.not_true, cond_false, qE]
     refine Ev.bind (jJ t) ?_
     cases bR t with
     | false => exact Ev.ret _
     | true => exact Ev.ret _
end Abs
end Go.Proofs.YtiiaccpcoclklaaGreat
namespace Go.Proofs.YtiiaccpcoclklaaGreat
namespace Abs
open Go
theorem Du (env : Env) (t : Tm) : Ev (fun n => xw n env t) (dY env t) := by
 unfold xw dY
 refine Ev.bind (a := !(bJ env && cu t)) ?_ ?_
 ·refine Ev.bind (nI env) ?_
  cases bJ env with
  | false => exact Ev.ret _
  | true => exact Ev.bind (jA t) (Ev.ret _)
 ·cases hb : (bJ env && cu t) with
  | false => exact Ev.ret _
  | true =>
   simp only [Bool.and_eq_true] at hb
   simp only [Bool.not_true, cond_false, cond_true]
   refine Ev.bind (asr hb.1 t 1 [] (gG hb.2) PU (by simp)) ?_
   cases hr : bC env [] t with
   | er e p => exact Ev.bind (mQ bE rfl) (Ev.ret _)
   | ok u => exact Ev.bind (mQ u (akd (Cr hb.1 PU hr))) (Ev.ret _)
end Abs
end Go.Proofs.YtiiaccpcoclklaaGreat
namespace Go.Proofs.YtiiaccpcoclklaaGreat
namespace Abs
open Go
theorem JE : ∀ t : Tm, Ev (fun n => jH n t t) true := Tm.ind fun op nm m ty ks ih => by
 refine Ev.succ ?_
 show Ev (fun n => tK n (fun p0 p1 => jH n p0 p1) (fun p0 p1 => om n p0 p1) (.mk op nm m ty ks) (.mk op nm m ty ks)) _
 unfold tK
 simp only [beq_self_eq_true, cond_true]
 refine Ev.bind (a := true) (Ev.bind (kI ty) ?_) (Ev.ret _)
 simp only [cond_true, Tm.kids]
 refine Ev.bind (a := true) ?_ (Ev.ret _)
 refine Ev.succ ?_
 show Ev (fun n => rQ n (fun p0 p1 => jH n p0 p1) (fun p0 p1 => om n p0 p1) ks ks) _
 unfold rQ
 simp only [zY, cond_false]
 have h := iP ks (fun n k i => uT n (fun p0 p1 => jH n p0 p1) (fun p0 p1 => om n p0 p1) ks ks k i) (fun n x => (jH n x x).bind fun b => some (!b)) (fun _ => false) false
  (fun n k i => by
   show cond _ _ _ = _
   congr 1
   cases hx : idx ks i with
   | none => rfl
   | some x => simp only [Option.bind_some, Option.bind_assoc])
  (fun x hx => Ev.bind (ih x hx) (Ev.ret _))
 rw [Fh] at h
 exact Ev.bind h (Ev.ret _)
theorem acQ (n : Nat) (p q : Tm) : q9 n p q = some (fZ p q) := by
 unfold q9 fZ
 cases p.op == 1 with
 | true => rfl
 | false => cases q.op == 1 <;> rfl
theorem ame (n : Nat) (op : Int) (p q : Tm) : CF n op p q = some (sH op p q) := by
 unfold CF sH
 cases q.op == 1 <;> rfl
theorem akt (n : Nat) (nm : Str) (p q : Tm) : G8 n nm p q = some (allT nm p q) := by
 unfold G8 allT
 cases q.op == 1 <;> rfl
theorem asw : ∀ t : Tm, ∀ d : Int, Wf d t → Ev (fun n => oz n t) (dQ t) := Tm.ind fun op nm m ty ks ih d hw => by
 obtain ⟨hnode, _, hks, hkw⟩ := hw.node
 obtain ⟨hop, _, _, hlen, hbk⟩ := jL hnode
 have two : dO op = 2 → ∃ a b, ks = [a, b] := fun h => by
  have hl := (hlen (ks.map fun _ => bE) (by simp)).two h
  exact dR ks (by simpa using hl)
 have one : dO op = 1 → ∃ a, ks = [a] := fun h => by
  have hl := (hlen (ks.map fun _ => bE) (by simp)).one h
  exact rR ks (by simpa using hl)
 have ihk : ∀ u ∈ ks, Ev (fun n => oz n u) (dQ u) := fun u hu => ih u hu (d + 1) (hkw u hu)
 refine Ev.succ ?_
 show Ev (fun n => uZ n (fun p0 => oz n p0) (.mk op nm m ty ks)) _
 unfold uZ
 simp only [Tm.op, Tm.name, Tm.kids, afE, Option.bind_some, dQ, EP, sQ, acQ, ame, akt]
 cases h46 : (op == 4 || op == 6) with
 | true =>
  have : dO op = 2 := by
   simp only [Bool.or_eq_true, beq_iff_eq] at h46
   rcases h46 with rfl | rfl <;> rfl
  obtain ⟨a, b, rfl⟩ := two this
  simp only [cond_true, gF, jK, Option.bind_some]
  refine Ev.bind (ihk a (by simp)) ?_
  exact Ev.bind (ihk b (by simp)) (Ev.ret _)
 | false =>
  simp only [cond_false]
  cases h5 : (op == 5) with
  | true =>
   have : dO op = 2 := by
    simp only [beq_iff_eq] at h5
    subst h5; rfl
   obtain ⟨a, b, rfl⟩ := two this
   simp only [cond_true, gF, jK, Option.bind_some]
   refine Ev.bind (ihk a (by simp)) ?_
   exact Ev.bind (ihk b (by simp)) (Ev.ret _)
  | false =>
   simp only [cond_false]
   rw [show (op == 8 || (op == 9 || (op == 55 || op == 56))) = bD op from rfl]
   cases hb : bD op with
   | true =>
    obtain ⟨a, b, rfl⟩ := hbk hb
    simp only [cond_true, gF, jK, Option.bind_some]
    refine Ev.bind (ihk a (by simp)) ?_
    exact Ev.bind (ihk b (by simp)) (Ev.ret _)
   | false =>
    simp only [cond_false]
    have h := jc (ρ := Tm) ks (fun n k i (s : Tm) => yJ n (fun p0 => oz n p0) (.mk op nm m ty ks) k (i, s.op, s.name, s.n, s.ty.kind, s.ty.name, s.ty.kids, s.kids)) (fun n x s => (oz n x).bind fun y => q9 n s y) (fun x s => fZ s (dQ x)) (fun s => (s.op, s.name, s.n, s.ty.kind, s.ty.name, s.ty.kids, s.kids)) (fun _ _ => True)
     (fun n k i s => by
      show cond _ _ _ = _
      congr 1
      show (idx ks i).bind _ = _
      congr 1
      funext x
      simp only [Option.bind_assoc, Li])
     (fun x suf s hx _ => ⟨Ev.bind (ihk x hx) (by simp only [acQ]; exact Ev.ret _), trivial⟩) (s0 := nY) trivial
    have hf : ∀ (l : List Tm) (s : Tm), l.foldl (fun s x => fZ s (dQ x)) s = (l.map dQ).foldl fZ s := by
     intro l
     induction l with
     | nil => intro s; rfl
     | cons x l ih => intro s; rw [List.foldl_cons, ih]; rfl
    rw [hf] at h
    refine Ev.bind h ?_
    simp only [LR.el, Li, xJ]
    generalize (ks.map dQ).foldl fZ nY = D
    cases h25 : (op == 25) with
    | true =>
     have : dO op = 2 := by
      simp only [beq_iff_eq] at h25
      subst h25; rfl
     obtain ⟨a, b, rfl⟩ := two this
     exact Ev.ret _
    | false =>
     cases h26 : (op == 26) with
     | true =>
      have : dO op = 2 := by
       simp only [beq_iff_eq] at h26
       subst h26; rfl
      obtain ⟨a, b, rfl⟩ := two this
      exact Ev.ret _
     | false =>
      cases h48 : (op == 48 || op == 49) with
      | true =>
       have : dO op = 1 := by
        simp only [Bool.or_eq_true, beq_iff_eq] at h48
        rcases h48 with rfl | rfl <;> rfl
       obtain ⟨a, rfl⟩ := one this
       exact Ev.ret _
      | false =>
       cases h54 : (op == 54) with
       | true =>
        have : dO op = 2 := by
         simp only [beq_iff_eq] at h54
         subst h54; rfl
        obtain ⟨a, b, rfl⟩ := two this
        exact Ev.ret _
       | false => exact Ev.ret _
theorem adB (env : Env) (t : Tm) : Ev (fun n => DI n env t) (AL env t) := by
 unfold DI AL
 refine Ev.bind (Du env t) ?_
 cases he : ((dY env t).2.2 != 0) with
 | true => exact Ev.ret _
 | false =>
  obtain ⟨_, hv, _⟩ := uW he
  simp only [cond_false]
  refine Ev.bind (asw t 1 (gG hv)) ?_
  refine Ev.bind (jA _) ?_
  cases hd : cu (dQ t) with
  | false => exact Ev.ret _
  | true => exact Ev.bind (LG _ 1 (gG hd)) (Ev.ret _)
mutual
def zm : Tm → Bool
 | .mk op _ _ _ ks => !(Dn op) && adS ks
def adS : List Tm → Bool
 | [] => true
 | t :: ts => zm t && adS ts
end
theorem Jp : ∀ ts, adS ts = ts.all zm
 | [] => rfl
 | t :: ts => by simp [adS, Jp ts]
theorem Y2 : ∀ t : Tm, Ev (fun n => mX n t) (zm t) := Tm.ind fun op nm m ty ks ih => by
 refine Ev.succ ?_
 show Ev (fun n => sF n (fun p0 => mX n p0) (.mk op nm m ty ks)) _
 unfold sF
 simp only [Tm.op, afE, Option.bind_some, zm, Jp]
 rw [show (op == 25 || (op == 26 || (op == 48 || (op == 49 || op == 54)))) = Dn op from rfl]
 cases Dn op with
 | true => exact Ev.ret _
 | false =>
  simp only [cond_false, Bool.not_false, Bool.true_and]
  have h := iP ks (fun n k i => vw n (fun p0 => mX n p0) (.mk op nm m ty ks) k i) (fun n x => (mX n x).bind fun b => some (!b)) (fun x => !(zm x)) false
   (fun n k i => by
    show cond _ _ _ = _
    congr 1
    show (idx ks i).bind _ = _
    congr 1
    funext x
    simp only [Option.bind_assoc, Option.bind_some])
   (fun x hx => Ev.bind (ih x hx) (Ev.ret _))
  rw [oV] at h
  refine Ev.bind h ?_
  cases ks.all zm
  ·exact Ev.ret _
  ·exact Ev.ret _
theorem agN : ∀ t : Tm, Ev (fun n => vQ n t) (zm t) := Tm.ind fun op nm m ty ks ih => by
 refine Ev.succ ?_
 show Ev (fun n => yA n (fun p0 => vQ n p0) (.mk op nm m ty ks)) _
 unfold yA
 simp only [Tm.op, orC, Option.bind_some, zm, Jp]
 rw [show (op == 25 || (op == 26 || (op == 48 || (op == 49 || op == 54)))) = Dn op from rfl]
 cases Dn op with
 | true => exact Ev.ret _
 | false =>
  simp only [cond_false, Bool.not_false, Bool.true_and]
  have h := iP ks (fun n k i => BA n (fun p0 => vQ n p0) (.mk op nm m ty ks) k i) (fun n x => (vQ n x).bind fun b => some (!b)) (fun x => !(zm x)) false
   (fun n k i => by
    show cond _ _ _ = _
    congr 1
    show (idx ks i).bind _ = _
    congr 1
    funext x
    simp only [Option.bind_assoc, Option.bind_some])
   (fun x hx => Ev.bind (ih x hx) (Ev.ret _))
  rw [oV] at h
  refine Ev.bind h ?_
  cases ks.all zm
  ·exact Ev.ret _
  ·exact Ev.ret _
def abT (t : Tm) : Bool := cu t && zm t
theorem Ji (t : Tm) (ht : fI t) : Ev (fun n => wZ n t) (abT t) := by
 unfold wZ abT
 refine Ev.bind (a := cu t && zm t) (Ev.bind (FU t ht) ?_) (Ev.ret _)
 cases cu t with
 | false => exact Ev.ret _
 | true => exact Ev.bind (Y2 t) (Ev.ret _)
theorem agq (t : Tm) : Ev (fun n => Im n t) (abT t) := by
 unfold Im abT
 refine Ev.bind (a := cu t && zm t) (Ev.bind (jA t) ?_) (Ev.ret _)
 cases cu t with
 | false => exact Ev.ret _
 | true => exact Ev.bind (agN t) (Ev.ret _)
theorem SS (env : Env) (t : Tm) (hs : iN env) (ht : fI t) : Ev (fun n => yh n env t) true := by
 unfold yh dh
 refine Ev.bind (nA env) ?_
 cases je env with
 | false => exact Ev.ret _
 | true =>
  simp only [Bool.not_true, cond_false]
  refine Ev.bind (mh env t hs ht) ?_
  refine Ev.bind (adB env t) ?_
  refine Ev.bind (a := true) ?_ (Ev.ret _)
  simp only [beq_self_eq_true, cond_true]
  refine Ev.bind (JE _) ?_
  simp only [cond_true]
  refine Ev.bind (Ji t ht) ?_
  refine Ev.bind (agq t) ?_
  simp only [beq_self_eq_true, cond_true]
  exact Ev.ret _
end Abs
end Go.Proofs.YtiiaccpcoclklaaGreat

/-
  Environments: ValidEnv, Lookup and With of the program and of the document come to the same plain answers; the law TypingEnvs. Conditions: none; lemmas without a program. Environments: Lookup and With of the program and of the document come to the same plain answers; the law TypingEnvs. Conditions: none; lemmas without a program. Union of the program and of the document come to the same plain answer; the law TypingUnions. Conditions: none; lemmas without a program. Valid terms: the program's functions and the document's come to the same plain answer. Conditions: names are no longer than a string may be; lemmas without a program. Terms that can be read stand for plain trees, whose names are short. Conditions: none. The shapes of valid types. Conditions: none; lemmas without a program.
-/
import Derived.Test.YtiiaccpcoclklaaGreatCG1x172644
set_option linter.unusedSimpArgs false
set_option linter.unusedVariables false
namespace Go.Proofs.YtiiaccpcoclklaaGreat
namespace Abs
open Go
def hasCar (env : Env) (s : Str) : Bool := env.carriers.any fun c => c.name == s
def carB (c : Carrier) : Bool := ident c.name && (!(decide (8 < (c.elems.length : Int))) && c.elems.all ident)
def declB (env : Env) (d : Decl) : Bool := named d.name && ((validT d.ty && !(hasK 2 d.ty)) && (carsT d.ty).all (hasCar env))
def names1 (env : Env) : List Str := (env.carriers.flatMap fun c => c.name :: c.elems) ++ env.names.map (·.name)
def names2 (env : Env) : List Str := env.carriers.map (·.name) ++ (env.carriers.flatMap (·.elems) ++ env.names.map (·.name))
def distA : List Str → List Str → Bool
 | _, [] => true
 | pre, x :: xs => !(pre.any (· == x)) && distA (pre ++ [x]) xs
theorem distA_iff : ∀ (l pre : List Str), distA pre l = true ↔ l.Nodup ∧ ∀ x ∈ l, x ∉ pre
 | [], pre => by simp [distA]
 | x :: l, pre => by
  simp only [distA, Bool.and_eq_true, distA_iff l, Bool.not_eq_true', List.nodup_cons, List.mem_cons, List.any_eq_false, beq_iff_eq, List.mem_append, List.not_mem_nil, or_false]
  constructor
  ·rintro ⟨h1, h2, h3⟩
   refine ⟨⟨fun hx => (h3 x hx) (.inr rfl), h2⟩, ?_⟩
   rintro y (rfl | hy)
   ·exact fun hp => h1 _ hp rfl
   ·exact fun hp => h3 y hy (.inl hp)
  ·rintro ⟨⟨h1, h2⟩, h3⟩
   refine ⟨fun y hy e => h3 x (.inl rfl) (e ▸ hy), h2, fun y hy hp => ?_⟩
   rcases hp with hp | rfl
   ·exact h3 y (.inr hy) hp
   ·exact h1 hy
theorem dist_iff (l : List Str) : distA [] l = true ↔ l.Nodup := by rw [distA_iff]; simp
theorem flat_perm (cs : List Carrier) : (cs.flatMap fun c => c.name :: c.elems).Perm (cs.map (·.name) ++ cs.flatMap (·.elems)) := by
 induction cs with
 | nil => simp
 | cons c cs ih =>
  simp only [List.flatMap_cons, List.map_cons, List.cons_append]
  refine List.Perm.cons _ ?_
  refine (List.Perm.append_left _ ih).trans ?_
  rw [← List.append_assoc, ← List.append_assoc]
  exact List.Perm.append_right _ List.perm_append_comm
theorem names_perm (env : Env) : (names1 env).Perm (names2 env) := by
 unfold names1 names2
 rw [← List.append_assoc]
 exact List.Perm.append_right _ (flat_perm _)
theorem dist12 (env : Env) : distA [] (names1 env) = distA [] (names2 env) := by
 have h : (distA [] (names1 env) = true) ↔ (distA [] (names2 env) = true) := by rw [dist_iff, dist_iff]; exact (names_perm env).nodup_iff
 cases h1 : distA [] (names1 env) <;> cases h2 : distA [] (names2 env) <;> simp_all
def validE (env : Env) : Bool := !(decide (8 < (env.carriers.length : Int)) || decide (64 < (env.names.length : Int))) && (env.carriers.all carB && (env.names.all (declB env) && distA [] (names2 env)))
theorem hasCarrier_ev (env : Env) (s : Str) : Ev (fun n => typing_hasCarrier n env s) (hasCar env s) := by
 unfold typing_hasCarrier slices_ContainsFunc_Carrier slices_IndexFunc_Carrier
 refine Ev.bind (a := hasCar env s) ?_ (Ev.ret _)
 refine Ev.bind (loopFind env.carriers (fun n k i => slices_IndexFunc_Carrier_L0 n env.carriers s k i) (fun _ x => some (x.name == s)) (fun c => c.name == s) (fun n k i => rfl) (fun x _ => Ev.ret _)) ?_
 rw [findI_ge _ _ _ (Int.le_refl _)]
 exact Ev.ret _
theorem mentions_ev (env : Env) {t : Ty} (h : validT t = true) : Ev (fun n => typing_mentions n env t) ((carsT t).all (hasCar env)) := by
 unfold typing_mentions slices_ContainsFunc_string slices_IndexFunc_string
 refine Ev.bind (typing_Carriers_ev h) ?_
 generalize hl : ((putAll ((carsT t).map fun s => (s, true)) []).map (·.1)).mergeSort leS = l
 have hm : ∀ s, s ∈ l ↔ s ∈ carsT t := fun s => by rw [← hl]; exact Carriers_mem t s
 have hf := loopFind l (fun n k i => slices_IndexFunc_string_L0 n l env.carriers env.names k i) (fun n x => typing_mentions_1 n x env.carriers env.names) (fun s => !(hasCar env s)) (fun n k i => rfl) (fun x _ => by
  unfold typing_mentions_1
  exact Ev.bind (hasCarrier_ev env x) (Ev.ret _))
 refine Ev.bind (a := l.any fun s => !(hasCar env s)) (Ev.bind hf ?_) ?_
 ·rw [findI_ge _ _ _ (Int.le_refl _)]
  exact Ev.ret _
 ·rw [any_not, Bool.not_not]
  have : l.all (hasCar env) = (carsT t).all (hasCar env) := by
   have h : (l.all (hasCar env) = true) ↔ ((carsT t).all (hasCar env) = true) := by simp only [List.all_eq_true, hm]
   cases h1 : l.all (hasCar env) <;> cases h2 : (carsT t).all (hasCar env) <;> simp_all
  rw [this]
  exact Ev.ret _
theorem FindCarrier_ev (env : Env) (s : Str) : Ev (fun n => R2_FindCarrier n env s) (findI (fun c => c.name == s) 0 env.carriers) := by
 unfold R2_FindCarrier
 exact loopFind env.carriers (fun n k i => R2_FindCarrier_L0 n env s k i) (fun _ x => some (x.name == s)) (fun c => c.name == s) (fun n k i => rfl) (fun x _ => Ev.ret _)
theorem lt_not_le (a : Int) : decide (a < 0) = !(decide (0 ≤ a)) := by
 by_cases h : a < 0
 ·rw [decide_eq_true h, decide_eq_false (by omega)]; rfl
 ·rw [decide_eq_false h, decide_eq_true (by omega)]; rfl
theorem Knows_ev (env : Env) {t : Ty} (h : validT t = true) : Ev (fun n => R2_Knows n env t) ((carsT t).all (hasCar env)) := by
 unfold R2_Knows
 obtain ⟨h1, h2⟩ := valid_ok h
 refine Ev.bind (R2_carriers_ev t h1 h2) ?_
 have hs := loopStop (carsT t) (fun n k i => R2_Knows_L0 n env (carsT t) k i) (fun n x => (R2_FindCarrier n env x).bind fun x3 => some (decide (x3 < 0))) (fun s => !(hasCar env s)) false
  (fun n k i => by
   show cond _ _ _ = _
   congr 1
   congr 1
   funext x
   simp only [Option.bind_assoc, Option.bind_some])
  (fun x _ => by
   refine Ev.bind (FindCarrier_ev env x) ?_
   rw [lt_not_le, findI_ge _ _ _ (Int.le_refl _)]
   exact Ev.ret _)
 rw [any_not] at hs
 refine Ev.bind hs ?_
 cases (carsT t).all (hasCar env)
 ·exact Ev.ret _
 ·exact Ev.ret _
theorem declared_ev (env : Env) (h : (names1 env).length ≤ 1000000) : Ev (fun n => typing_declared n env) (names1 env) := by
 unfold typing_declared
 simp only [names1, List.length_append, List.length_map] at h
 have h1 := loopFold env.carriers (fun n k i s => typing_declared_L1 n env k (s, i)) (fun n x s => (app 16 s [x.name]).bind fun x4 => app 16 x4 x.elems) (fun x s => s ++ (x.name :: x.elems)) (fun s => s) (fun suf s => s.length + (suf.flatMap fun c => c.name :: c.elems).length ≤ 1000000)
  (fun n k i s => by
   show cond _ _ _ = _
   congr 1
   show (idx env.carriers i).bind _ = _
   congr 1
   funext x
   simp only [Option.bind_assoc])
  (fun x suf s hx hs => by
   simp only [List.flatMap_cons, List.length_append, List.length_cons] at hs
   refine ⟨?_, ?_⟩
   ·rw [app_eq (by simp only [List.length_singleton]; omega) (by omega), Option.bind_some, app_eq (by simp only [List.length_append, List.length_singleton]; omega) (by omega)]
    rw [List.append_assoc]
    exact Ev.ret _
   ·simp only [List.length_append, List.length_cons]; omega) (s0 := ([] : List Str)) (by simp only [List.length_nil]; omega)
 have hf1 : ∀ (cs : List Carrier) (s : List Str), cs.foldl (fun s x => s ++ (x.name :: x.elems)) s = s ++ cs.flatMap fun c => c.name :: c.elems := by
  intro cs
  induction cs with
  | nil => intro s; simp
  | cons c cs ih => intro s; rw [List.foldl_cons, ih]; simp
 rw [hf1, List.nil_append] at h1
 have h2 := loopFold env.names (fun n k i s => typing_declared_L0 n env k (s, i)) (fun n x s => app 16 s [x.name]) (fun x s => s ++ [x.name]) (fun s => s) (fun suf s => s.length + suf.length ≤ 1000000)
  (fun n k i s => rfl)
  (fun x suf s hx hs => by
   simp only [List.length_cons] at hs
   refine ⟨?_, ?_⟩
   ·rw [app_eq (by simp only [List.length_singleton]; omega) (by omega)]
    exact Ev.ret _
   ·simp only [List.length_append, List.length_singleton]; omega) (s0 := env.carriers.flatMap fun c => c.name :: c.elems) (by omega)
 have hf2 : ∀ (cs : List Decl) (s : List Str), cs.foldl (fun s x => s ++ [x.name]) s = s ++ cs.map (·.name) := by
  intro cs
  induction cs with
  | nil => intro s; simp
  | cons c cs ih => intro s; rw [List.foldl_cons, ih]; simp
 rw [hf2] at h2
 exact Ev.bind h1 (Ev.bind h2 (Ev.ret _))
theorem AllNames_ev (env : Env) (h : (names2 env).length ≤ 1000000) : Ev (fun n => R2_AllNames n env) (names2 env) := by
 unfold R2_AllNames
 simp only [names2, List.length_append, List.length_map] at h
 have h0 := loopFold env.carriers (fun n k i s => R2_AllNames_L2 n env k (s, i)) (fun n x s => app 16 s [x.name]) (fun x s => s ++ [x.name]) (fun s => s) (fun suf s => s.length + suf.length ≤ 1000000)
  (fun n k i s => rfl)
  (fun x suf s hx hs => by
   simp only [List.length_cons] at hs
   refine ⟨?_, ?_⟩
   ·rw [app_eq (by simp only [List.length_singleton]; omega) (by omega)]
    exact Ev.ret _
   ·simp only [List.length_append, List.length_singleton]; omega) (s0 := ([] : List Str)) (by simp only [List.length_nil]; omega)
 have hf0 : ∀ (cs : List Carrier) (s : List Str), cs.foldl (fun s x => s ++ [x.name]) s = s ++ cs.map (·.name) := by
  intro cs
  induction cs with
  | nil => intro s; simp
  | cons c cs ih => intro s; rw [List.foldl_cons, ih]; simp
 rw [hf0, List.nil_append] at h0
 have h1 := loopFold env.carriers (fun n k i s => R2_AllNames_L1 n env k (s, i)) (fun n x s => app 16 s x.elems) (fun x s => s ++ x.elems) (fun s => s) (fun suf s => s.length + (suf.flatMap (·.elems)).length ≤ 1000000)
  (fun n k i s => rfl)
  (fun x suf s hx hs => by
   simp only [List.flatMap_cons, List.length_append] at hs
   refine ⟨?_, ?_⟩
   ·rw [app_eq (by omega) (by omega)]
    exact Ev.ret _
   ·simp only [List.length_append]; omega) (s0 := env.carriers.map (·.name)) (by simp only [List.length_map]; omega)
 have hf1 : ∀ (cs : List Carrier) (s : List Str), cs.foldl (fun s x => s ++ x.elems) s = s ++ cs.flatMap (·.elems) := by
  intro cs
  induction cs with
  | nil => intro s; simp
  | cons c cs ih => intro s; rw [List.foldl_cons, ih]; simp
 rw [hf1] at h1
 have h2 := loopFold env.names (fun n k i s => R2_AllNames_L0 n env k (s, i)) (fun n x s => app 16 s [x.name]) (fun x s => s ++ [x.name]) (fun s => s) (fun suf s => s.length + suf.length ≤ 1000000)
  (fun n k i s => rfl)
  (fun x suf s hx hs => by
   simp only [List.length_cons] at hs
   refine ⟨?_, ?_⟩
   ·rw [app_eq (by simp only [List.length_singleton]; omega) (by omega)]
    exact Ev.ret _
   ·simp only [List.length_append, List.length_singleton]; omega) (s0 := env.carriers.map (·.name) ++ env.carriers.flatMap (·.elems)) (by simp only [List.length_append, List.length_map]; omega)
 have hf2 : ∀ (cs : List Decl) (s : List Str), cs.foldl (fun s x => s ++ [x.name]) s = s ++ cs.map (·.name) := by
  intro cs
  induction cs with
  | nil => intro s; simp
  | cons c cs ih => intro s; rw [List.foldl_cons, ih]; simp
 rw [hf2, List.append_assoc] at h2
 exact Ev.bind h0 (Ev.bind h1 (Ev.bind h2 (Ev.ret _)))
theorem distinct_ev (l : List Str) (hl : l.length ≤ 1000000) : Ev (fun n => typing_distinct n l) (distA [] l) := by
 unfold typing_distinct
 have h := loopEv l (fun n k i s => typing_distinct_L0 n l k (i, s)) (fun n x s => (mel (mfind s x) (some false) (fun x3 => some x3) : Option Bool).bind fun s3 => cond s3 (some (.rt false)) ((mput s x true).bind fun x2 => some (.nx x2))) (fun x s => cond ((mfind s x).getD false) (.rt false) (.nx (mputL s x true))) (fun _ => ())
  (fun suf s => s.length + suf.length ≤ 1000000)
  (fun n k i s => by
   show cond _ _ _ = _
   congr 1
   show (idx l i).bind _ = _
   congr 1
   funext x
   cases mfind s x with
   | none => simp only [mel, Option.bind_some, cond_false, Option.bind_assoc]
   | some b => cases b <;> simp only [mel, Option.bind_some, cond_false, cond_true, Option.bind_assoc])
  (fun x suf s hx hs => by
   simp only [List.length_cons] at hs
   refine ⟨?_, fun s' he => ?_⟩
   ·rw [mput_eq (by omega)]
    cases mfind s x with
    | none => exact Ev.ret _
    | some b => cases b <;> exact Ev.ret _
   ·cases hb : (mfind s x).getD false with
    | true => rw [hb] at he; cases he
    | false =>
     rw [hb] at he
     cases he
     have := mput_len s x true
     omega) (s0 := ([] : List (Str × Bool))) (by simpa using hl)
 have key : ∀ (suf pre : List Str) (s : List (Str × Bool)), (∀ x, mfind s x = if pre.any (· == x) then some true else none) → runL (τ := Unit) (fun x s => cond ((mfind s x).getD false) (.rt false) (.nx (mputL s x true))) (fun _ => ()) suf s = cond (distA pre suf) (.nx ()) (.rt false) := by
  intro suf
  induction suf with
  | nil => intro pre s _; rfl
  | cons x suf ih =>
   intro pre s hs
   simp only [runL, distA]
   rw [hs x]
   cases hb : pre.any (· == x) with
   | true => rfl
   | false =>
    simp only [Bool.false_eq_true, if_false, Option.getD_none, cond_false, Bool.not_false, Bool.true_and]
    refine ih (pre ++ [x]) _ (fun y => ?_)
    rw [mfind_put, hs y]
    simp only [List.any_append, List.any_cons, List.any_nil, Bool.or_false]
    cases hy : (x == y) with
    | true => simp
    | false => simp
 rw [key l [] [] (fun x => rfl)] at h
 refine Ev.bind h ?_
 cases distA [] l
 ·exact Ev.ret _
 ·exact Ev.ret _
theorem R2_dist_ev (l : List Str) : Ev (fun n => R2_ValidEnv_L0 n l n 0) (cond (distA [] l) (.nx ()) (.rt false)) := by
 have h := loopEvI l (fun n k i (_ : Unit) => R2_ValidEnv_L0 n l k i) (fun n i x _ => (scut l 0 i).bind fun x3 => (R1_In n x x3).bind fun x4 => cond x4 (some (.rt false)) (some (.nx ()))) (fun i x _ => cond ((l.take i.toNat).any (· == x)) (.rt false) (.nx ())) (fun _ => ())
  (fun i suf _ => ∃ pre, l = pre ++ suf ∧ i = (pre.length : Int))
  (fun n k i s => by
   show cond _ _ _ = _
   congr 1
   congr 1
   funext x
   cases scut l 0 i with
   | none => rfl
   | some y =>
    simp only [Option.bind_some]
    cases R1_In n x y with
    | none => rfl
    | some b => cases b <;> rfl)
  (fun i x suf s hx hs => by
   obtain ⟨pre, hp, rfl⟩ := hs
   refine ⟨?_, fun _ _ => ⟨pre ++ [x], by rw [hp]; simp, by simp⟩⟩
   rw [scut_all l pre.length (by rw [hp]; simp)]
   simp only [Option.bind_some, Int.toNat_natCast]
   refine Ev.bind (R1_In_ev _ _) ?_
   cases (l.take pre.length).any (· == x)
   ·exact Ev.ret _
   ·exact Ev.ret _) (s0 := ()) ⟨[], rfl, rfl⟩
 have key : ∀ (suf pre : List Str), l = pre ++ suf → runI (τ := Unit) (fun i x _ => cond ((l.take i.toNat).any (· == x)) (.rt false) (.nx ())) (fun _ => ()) (pre.length : Int) suf () = cond (distA pre suf) (.nx ()) (.rt false) := by
  intro suf
  induction suf with
  | nil => intro pre _; rfl
  | cons x suf ih =>
   intro pre hp
   have ht : l.take pre.length = pre := by rw [hp]; simp
   simp only [runI, distA, Int.toNat_natCast, ht]
   cases pre.any (· == x) with
   | true => rfl
   | false =>
    have := ih (pre ++ [x]) (by rw [hp]; simp)
    simp only [List.length_append, List.length_singleton, Int.natCast_add, Int.natCast_one] at this
    simpa using this
 have := key l [] rfl
 simp only [List.length_nil, Int.natCast_zero] at this
 rw [this] at h
 exact h
theorem short_names {env : Env} (h1 : ¬ 8 < (env.carriers.length : Int)) (h2 : ¬ 64 < (env.names.length : Int)) (h3 : env.carriers.all carB = true) : (names2 env).length ≤ 1000 := by
 have key : ∀ cs : List Carrier, cs.all carB = true → (cs.flatMap (·.elems)).length ≤ 8 * cs.length := by
  intro cs
  induction cs with
  | nil => intro _; simp
  | cons c cs ih =>
   intro h
   simp only [List.all_cons, Bool.and_eq_true, carB, Bool.not_eq_true', decide_eq_false_iff_not] at h
   have := ih (by simpa only [List.all_eq_true, carB] using h.2)
   simp only [List.flatMap_cons, List.length_append, List.length_cons]
   omega
 have := key _ h3
 simp only [names2, List.length_append, List.length_map]
 omega
theorem typing_ValidEnv_ev (env : Env) (hs : ∀ d ∈ env.names, d.name.length ≤ 9223372036854775807) : Ev (fun n => typing_ValidEnv n env) (validE env) := by
 unfold typing_ValidEnv
 by_cases h1 : 8 < (env.carriers.length : Int)
 ·have : validE env = false := by simp only [validE, decide_eq_true h1, Bool.true_or, Bool.not_true, Bool.false_and]
  rw [this, decide_eq_true h1]
  exact Ev.ret _
 by_cases h2 : 64 < (env.names.length : Int)
 ·have : validE env = false := by simp only [validE, decide_eq_true h2, Bool.or_true, Bool.not_true, Bool.false_and]
  rw [this, decide_eq_true h2, decide_eq_false h1]
  exact Ev.ret _
 simp only [validE, decide_eq_false h1, decide_eq_false h2, Bool.or_false, Bool.not_false, Bool.true_and, cond_false, Option.bind_some]
 have hcar := loopStopR env.carriers (fun n k i => typing_ValidEnv_L1 n env k i) (fun n x => ((term_Identifier n x.name).bind fun x10 => cond (!x10) (some true) (some (decide (8 < (x.elems.length : Int))))).bind fun s7 => cond s7 (some (.rt false)) ((typing_ValidEnv_L2 n x n 0).bind (LR.el (fun _ => some (.nx ())) (fun r => some (.rt r))))) (fun c => !(carB c)) false
  (fun n k i => by
   show cond _ _ _ = _
   congr 1
   congr 1
   funext x
   cases ((term_Identifier n x.name).bind fun x10 => cond (!x10) (some true) (some (decide (8 < (x.elems.length : Int))))) with
   | none => rfl
   | some b =>
    cases b with
    | true => rfl
    | false =>
     simp only [Option.bind_some, cond_false]
     cases typing_ValidEnv_L2 n x n 0 with
     | none => rfl
     | some r => cases r <;> rfl)
  (fun c hc => by
   refine Ev.bind (a := !(ident c.name) || decide (8 < (c.elems.length : Int))) (Ev.bind (term_Identifier_ev c.name) ?_) ?_
   ·cases ident c.name
    ·exact Ev.ret _
    ·exact Ev.ret _
   ·unfold carB
    cases ident c.name with
    | false => exact Ev.ret _
    | true =>
     cases decide (8 < (c.elems.length : Int)) with
     | true => exact Ev.ret _
     | false =>
      simp only [Bool.not_true, Bool.false_or, cond_false, Bool.true_and, Bool.not_false]
      have h := loopStop c.elems (fun n k i => typing_ValidEnv_L2 n c k i) (fun n x => (term_Identifier n x).bind fun x9 => some (!x9)) (fun s => !(ident s)) false
       (fun n k i => by
        show cond _ _ _ = _
        congr 1
        congr 1
        funext x
        simp only [Option.bind_assoc, Option.bind_some])
       (fun x _ => Ev.bind (term_Identifier_ev x) (Ev.ret _))
      rw [any_not] at h
      refine Ev.bind h ?_
      cases c.elems.all ident
      ·exact Ev.ret _
      ·exact Ev.ret _)
 rw [any_not] at hcar
 refine Ev.bind hcar ?_
 cases hc : env.carriers.all carB with
 | false => exact Ev.ret _
 | true =>
  simp only [Bool.not_true, cond_false, Bool.true_and]
  have hdecl := loopStop env.names (fun n k i => typing_ValidEnv_L0 n env k i) (fun n x => (typing_nameable n x.name).bind fun x4 => cond (!x4) (some true) ((typing_declarable n x.ty).bind fun x5 => cond (!x5) (some true) ((typing_mentions n env x.ty).bind fun x6 => some (!x6)))) (fun d => !(declB env d)) false
   (fun n k i => rfl)
   (fun d hd => by
    refine Ev.bind (nameable_ev d.name (hs d hd)) ?_
    unfold declB
    cases named d.name with
    | false => exact Ev.ret _
    | true =>
     simp only [Bool.not_true, cond_false, Bool.true_and]
     refine Ev.bind (a := validT d.ty && !(hasK 2 d.ty)) ?_ ?_
     ·unfold typing_declarable
      refine Ev.bind (a := validT d.ty && !(hasK 2 d.ty)) (Ev.bind (term_ValidType_ev d.ty) ?_) (Ev.ret _)
      cases validT d.ty with
      | false => exact Ev.ret _
      | true => exact Ev.bind (contains_ev 2 d.ty) (Ev.ret _)
     ·cases hv : validT d.ty with
      | false => exact Ev.ret _
      | true =>
       cases hasK 2 d.ty with
       | true => exact Ev.ret _
       | false => exact Ev.bind (mentions_ev env hv) (Ev.ret _))
  rw [any_not] at hdecl
  refine Ev.bind hdecl ?_
  cases hd : env.names.all (declB env) with
  | false => exact Ev.ret _
  | true =>
   simp only [Bool.not_true, cond_false, Bool.true_and]
   have hlen := short_names h1 h2 hc
   have hlen1 : (names1 env).length ≤ 1000 := by rw [(names_perm env).length_eq]; exact hlen
   refine Ev.bind (declared_ev env (by omega)) ?_
   rw [← dist12]
   exact Ev.bind (distinct_ev _ (by omega)) (Ev.ret _)
theorem R2_ValidEnv_ev (env : Env) : Ev (fun n => R2_ValidEnv n env) (validE env) := by
 unfold R2_ValidEnv
 by_cases h1 : 8 < (env.carriers.length : Int)
 ·have : validE env = false := by simp only [validE, decide_eq_true h1, Bool.true_or, Bool.not_true, Bool.false_and]
  rw [this, decide_eq_true h1]
  exact Ev.ret _
 by_cases h2 : 64 < (env.names.length : Int)
 ·have : validE env = false := by simp only [validE, decide_eq_true h2, Bool.or_true, Bool.not_true, Bool.false_and]
  rw [this, decide_eq_true h2, decide_eq_false h1]
  exact Ev.ret _
 simp only [validE, decide_eq_false h1, decide_eq_false h2, Bool.or_false, Bool.not_false, Bool.true_and, cond_false, Option.bind_some]
 have hcar := loopStopR env.carriers (fun n k i => R2_ValidEnv_L2 n env k i) (fun n x => ((R1_Identifier n x.name).bind fun x10 => cond (!x10) (some true) (some (decide (8 < (x.elems.length : Int))))).bind fun s7 => cond s7 (some (.rt false)) ((R2_ValidEnv_L3 n x n 0).bind (LR.el (fun _ => some (.nx ())) (fun r => some (.rt r))))) (fun c => !(carB c)) false
  (fun n k i => by
   show cond _ _ _ = _
   congr 1
   congr 1
   funext x
   cases ((R1_Identifier n x.name).bind fun x10 => cond (!x10) (some true) (some (decide (8 < (x.elems.length : Int))))) with
   | none => rfl
   | some b =>
    cases b with
    | true => rfl
    | false =>
     simp only [Option.bind_some, cond_false]
     cases R2_ValidEnv_L3 n x n 0 with
     | none => rfl
     | some r => cases r <;> rfl)
  (fun c hc => by
   refine Ev.bind (a := !(ident c.name) || decide (8 < (c.elems.length : Int))) (Ev.bind (R1_Identifier_ev c.name) ?_) ?_
   ·cases ident c.name
    ·exact Ev.ret _
    ·exact Ev.ret _
   ·unfold carB
    cases ident c.name with
    | false => exact Ev.ret _
    | true =>
     cases decide (8 < (c.elems.length : Int)) with
     | true => exact Ev.ret _
     | false =>
      simp only [Bool.not_true, Bool.false_or, cond_false, Bool.true_and, Bool.not_false]
      have h := loopStop c.elems (fun n k i => R2_ValidEnv_L3 n c k i) (fun n x => (R1_Identifier n x).bind fun x9 => some (!x9)) (fun s => !(ident s)) false
       (fun n k i => by
        show cond _ _ _ = _
        congr 1
        congr 1
        funext x
        simp only [Option.bind_assoc, Option.bind_some])
       (fun x _ => Ev.bind (R1_Identifier_ev x) (Ev.ret _))
      rw [any_not] at h
      refine Ev.bind h ?_
      cases c.elems.all ident
      ·exact Ev.ret _
      ·exact Ev.ret _)
 rw [any_not] at hcar
 refine Ev.bind hcar ?_
 cases hc : env.carriers.all carB with
 | false => exact Ev.ret _
 | true =>
  simp only [Bool.not_true, cond_false, Bool.true_and]
  have hdecl := loopStop env.names (fun n k i => R2_ValidEnv_L1 n env k i) (fun n x => (R1_Named n x.name).bind fun x6 => cond (!x6) (some true) ((R1_ValidType n x.ty).bind fun x7 => cond (!x7) (some true) ((R2_holdsBool n x.ty).bind fun x8 => cond x8 (some true) ((R2_Knows n env x.ty).bind fun x9 => some (!x9))))) (fun d => !(declB env d)) false
   (fun n k i => rfl)
   (fun d hd => by
    refine Ev.bind (R1_Named_ev d.name) ?_
    unfold declB
    cases named d.name with
    | false => exact Ev.ret _
    | true =>
     simp only [Bool.not_true, cond_false, Bool.true_and]
     refine Ev.bind (R1_ValidType_ev d.ty) ?_
     cases hv : validT d.ty with
     | false => exact Ev.ret _
     | true =>
      refine Ev.bind (holdsBool_ev d.ty) ?_
      cases hasK 2 d.ty with
      | true => exact Ev.ret _
      | false => exact Ev.bind (Knows_ev env hv) (Ev.ret _))
  rw [any_not] at hdecl
  refine Ev.bind hdecl ?_
  cases hd : env.names.all (declB env) with
  | false => exact Ev.ret _
  | true =>
   simp only [Bool.not_true, cond_false, Bool.true_and]
   have hlen := short_names h1 h2 hc
   refine Ev.bind (AllNames_ev env (by omega)) ?_
   refine Ev.bind (R2_dist_ev _) ?_
   cases distA [] (names2 env)
   ·exact Ev.ret _
   ·exact Ev.ret _
end Abs
end Go.Proofs.YtiiaccpcoclklaaGreat
namespace Go.Proofs.YtiiaccpcoclklaaGreat
namespace Abs
open Go
theorem valid_parts {env : Env} (h : validE env = true) : env.carriers.length ≤ 8 ∧ env.names.length ≤ 64 ∧ env.carriers.all carB = true ∧ env.names.all (declB env) = true ∧ (names2 env).Nodup := by
 simp only [validE, Bool.and_eq_true, Bool.not_eq_true', Bool.or_eq_false_iff, decide_eq_false_iff_not, dist_iff] at h
 obtain ⟨⟨h1, h2⟩, h3, h4, h5⟩ := h
 exact ⟨by omega, by omega, h3, h4, h5⟩
theorem valid_decl {env : Env} (h : validE env = true) {d : Decl} (hd : d ∈ env.names) : named d.name = true ∧ validT d.ty = true ∧ hasK 2 d.ty = false ∧ (carsT d.ty).all (hasCar env) = true := by
 have := List.all_eq_true.1 (valid_parts h).2.2.2.1 d hd
 simp only [declB, Bool.and_eq_true, Bool.not_eq_true'] at this
 exact ⟨this.1, this.2.1.1, this.2.1.2, this.2.2⟩
theorem valid_car {env : Env} (h : validE env = true) {c : Carrier} (hc : c ∈ env.carriers) : ident c.name = true ∧ c.elems.length ≤ 8 ∧ c.elems.all ident = true := by
 have := List.all_eq_true.1 (valid_parts h).2.2.1 c hc
 simp only [carB, Bool.and_eq_true, Bool.not_eq_true', decide_eq_false_iff_not] at this
 exact ⟨this.1, by omega, this.2.2⟩
def tyC (s : Str) : Ty := .mk 3 s []
def tySet (t : Ty) : Ty := .mk 5 [] [t]
def carAssoc (c : Carrier) : List (Str × Ty) := (c.name, tySet (tyC c.name)) :: c.elems.map fun e => (e, tyC c.name)
def assoc1 (env : Env) : List (Str × Ty) := env.carriers.flatMap carAssoc ++ env.names.map fun d => (d.name, d.ty)
def assoc2 (env : Env) : List (Str × Ty) := (env.names.map fun d => (d.name, d.ty)) ++ ((env.carriers.map fun c => (c.name, tySet (tyC c.name))) ++ env.carriers.flatMap fun c => c.elems.map fun e => (e, tyC c.name))
def look (env : Env) (s : Str) : Option Ty := mfind (assoc2 env) s
theorem assoc_perm (env : Env) : (assoc1 env).Perm (assoc2 env) := by
 unfold assoc1 assoc2
 refine List.Perm.trans ?_ List.perm_append_comm
 refine List.Perm.append_right _ ?_
 generalize env.carriers = cs
 induction cs with
 | nil => simp
 | cons c cs ih =>
  simp only [List.flatMap_cons, List.map_cons, List.cons_append, carAssoc]
  refine List.Perm.cons _ ?_
  refine (List.Perm.append_left _ ih).trans ?_
  rw [← List.append_assoc, ← List.append_assoc]
  exact List.Perm.append_right _ List.perm_append_comm
theorem assoc1_keys (env : Env) : (assoc1 env).map (·.1) = names1 env := by
 simp only [assoc1, names1, List.map_append, List.map_map, List.map_flatMap, carAssoc, List.map_cons]
 congr 1
 ·congr 1
  funext c
  simp [Function.comp_def]
theorem assoc1_nodup {env : Env} (h : validE env = true) : ((assoc1 env).map (·.1)).Nodup := by
 rw [assoc1_keys, (names_perm env).nodup_iff]
 exact (valid_parts h).2.2.2.2
theorem look_mem {env : Env} (h : validE env = true) {s : Str} {t : Ty} : look env s = some t ↔ (s, t) ∈ assoc1 env := by
 unfold look
 rw [← mfind_perm (assoc_perm env) (assoc1_nodup h), mfind_mem _ _ _ (assoc1_nodup h)]
theorem names_ev {env : Env} (h : validE env = true) : Ev (fun n => typing_names n env) (putAll (assoc1 env) []) := by
 obtain ⟨hc8, hn64, _, _, _⟩ := valid_parts h
 unfold typing_names
 have hin : ∀ (c : Carrier) (m : List (Str × Ty)), c.elems.length ≤ 8 → m.length ≤ 10000 → Ev (fun n => typing_names_L2 n c n (0, m)) (.nx (putAll (c.elems.map fun e => (e, tyC c.name)) m)) := fun c m hce hm => by
  have h1 := loopFold (ρ := List (Str × Ty)) c.elems (fun n k i s => typing_names_L2 n c k (i, s)) (fun n x s => mput s x (tyC c.name)) (fun x s => mputL s x (tyC c.name)) (fun s => s) (fun suf s => s.length + suf.length ≤ 10008)
   (fun n k i s => rfl)
   (fun x suf s hx hs => by
    simp only [List.length_cons] at hs
    refine ⟨?_, ?_⟩
    ·rw [mput_eq (by omega)]; exact Ev.ret _
    ·have := mput_len s x (tyC c.name); omega) (s0 := m) (by omega)
  have hf : ∀ (es : List Str) (m : List (Str × Ty)), es.foldl (fun s x => mputL s x (tyC c.name)) m = putAll (es.map fun e => (e, tyC c.name)) m := by
   intro es
   induction es with
   | nil => intro m; rfl
   | cons e es ih => intro m; rw [List.foldl_cons, ih]; rfl
  rw [hf] at h1
  exact h1
 have h1 := loopEv env.carriers (fun n k i s => typing_names_L1 n env k (i, s)) (fun n x s => (mput s x.name (tySet (tyC x.name))).bind fun x4 => (typing_names_L2 n x n (0, x4)).bind (LR.el (fun s6 => some (.nx s6)) (fun r => some (.rt r)))) (fun x s => .nx (putAll (carAssoc x) s)) (fun s => s)
  (fun suf s => s.length + 9 * suf.length ≤ 100)
  (fun n k i s => by
   show cond _ _ _ = _
   congr 1
   show (idx env.carriers i).bind _ = _
   congr 1
   funext x
   show (mput s x.name (tySet (tyC x.name))).bind _ = _
   cases mput s x.name (tySet (tyC x.name)) with
   | none => rfl
   | some y =>
    simp only [Option.bind_some]
    cases typing_names_L2 n x n (0, y) with
    | none => rfl
    | some r => cases r <;> rfl)
  (fun x suf s hx hs => by
   simp only [List.length_cons] at hs
   have hx8 := (valid_car h hx).2.1
   refine ⟨?_, fun s' he => ?_⟩
   ·rw [mput_eq (by omega)]
    simp only [Option.bind_some]
    have := mput_len s x.name (tySet (tyC x.name))
    exact Ev.bind (hin x _ hx8 (by omega)) (Ev.ret _)
   ·cases he
    have := putAll_len (carAssoc x) s
    simp only [carAssoc, List.length_cons, List.length_map] at this ⊢
    omega) (s0 := ([] : List (Str × Ty))) (by simp only [List.length_nil]; omega)
 rw [runL_fold] at h1
 have hf1 : ∀ (cs : List Carrier) (m : List (Str × Ty)), cs.foldl (fun s x => putAll (carAssoc x) s) m = putAll (cs.flatMap carAssoc) m := by
  intro cs
  induction cs with
  | nil => intro m; rfl
  | cons c cs ih => intro m; rw [List.foldl_cons, ih, List.flatMap_cons, putAll_app]
 rw [hf1] at h1
 have hl1 : (putAll (env.carriers.flatMap carAssoc) []).length ≤ 100 := by
  have key : ∀ cs : List Carrier, (∀ c ∈ cs, c.elems.length ≤ 8) → (cs.flatMap carAssoc).length ≤ 9 * cs.length := by
   intro cs
   induction cs with
   | nil => intro _; simp
   | cons c cs ih =>
    intro hh
    have a := hh c (List.mem_cons_self ..)
    have b := ih fun c hc => hh c (List.mem_cons_of_mem _ hc)
    simp only [List.flatMap_cons, List.length_append, carAssoc, List.length_cons, List.length_map] at b ⊢
    omega
  have a := key env.carriers fun c hc => (valid_car h hc).2.1
  have b := putAll_len (env.carriers.flatMap carAssoc) []
  simp only [List.length_nil] at b
  omega
 have h2 := loopFold (ρ := List (Str × Ty)) env.names (fun n k i s => typing_names_L0 n env k (i, s)) (fun n x s => mput s x.name x.ty) (fun x s => mputL s x.name x.ty) (fun s => s) (fun suf s => s.length + suf.length ≤ 1000)
  (fun n k i s => rfl)
  (fun x suf s hx hs => by
   simp only [List.length_cons] at hs
   refine ⟨?_, ?_⟩
   ·rw [mput_eq (by omega)]; exact Ev.ret _
   ·have := mput_len s x.name x.ty; omega) (s0 := putAll (env.carriers.flatMap carAssoc) []) (by omega)
 have hf2 : ∀ (ds : List Decl) (m : List (Str × Ty)), ds.foldl (fun s x => mputL s x.name x.ty) m = putAll (ds.map fun d => (d.name, d.ty)) m := by
  intro ds
  induction ds with
  | nil => intro m; rfl
  | cons e es ih => intro m; rw [List.foldl_cons, ih]; rfl
 rw [hf2, ← putAll_app] at h2
 exact Ev.bind h1 (Ev.bind h2 (Ev.ret _))
def tyZero : Ty := .mk 0 [] []
def lookP (env : Env) (s : Str) : Ty × Bool := match look env s with | some t => (t, true) | none => (tyZero, false)
theorem mfind_append {α : Type} (a b : List (Str × α)) (k : Str) : mfind (a ++ b) k = (match mfind a k with | some v => some v | none => mfind b k) := by
 induction a with
 | nil => rfl
 | cons p a ih =>
  rw [List.cons_append, mfind_cons, mfind_cons]
  by_cases h : (p.1 == k) = true
  ·rw [if_pos h, if_pos h]
  ·rw [if_neg h, if_neg h, ih]
theorem mfind_map {α β : Type} (f : α → Str) (g : α → β) (l : List α) (k : Str) : mfind (l.map fun x => (f x, g x)) k = (l.find? fun x => f x == k).map g := by
 induction l with
 | nil => rfl
 | cons x l ih =>
  rw [List.map_cons, mfind_cons, List.find?_cons, ih]
  cases f x == k <;> rfl
theorem mfind_flat (cs : List Carrier) (k : Str) : mfind (cs.flatMap fun c => c.elems.map fun e => (e, tyC c.name)) k = (cs.find? fun c => c.elems.any (· == k)).map fun c => tyC c.name := by
 induction cs with
 | nil => rfl
 | cons c cs ih =>
  rw [List.flatMap_cons, mfind_append, List.find?_cons, ih]
  rw [mfind_map (fun e => e) (fun _ => tyC c.name)]
  cases hf : c.elems.find? (fun e => e == k) with
  | none =>
   have : c.elems.any (· == k) = false := by
    rw [List.any_eq_false]
    exact List.find?_eq_none.1 hf
   rw [this]; rfl
  | some e =>
   have : c.elems.any (· == k) = true := by
    rw [List.any_eq_true]
    exact ⟨e, List.mem_of_find?_eq_some hf, List.find?_some (p := fun e => e == k) hf⟩
   rw [this]; rfl
def findE (s : Str) : Int → List Carrier → Int × Int
 | _, [] => (-1, -1)
 | i, c :: cs => cond (c.elems.any (· == s)) (i, findI (· == s) 0 c.elems) (findE s (i + 1) cs)
theorem findE_fst (s : Str) : ∀ (cs : List Carrier) (i : Int), (findE s i cs).1 = findI (fun c => c.elems.any (· == s)) i cs
 | [], _ => rfl
 | c :: cs, i => by
  simp only [findE, findI]
  cases c.elems.any (· == s)
  ·exact findE_fst s cs (i + 1)
  ·rfl
theorem FindElement_ev (env : Env) (s : Str) : Ev (fun n => R2_FindElement n env s) (findE s 0 env.carriers) := by
 unfold R2_FindElement
 have hin : ∀ (i : Int) (c : Carrier), idx env.carriers i = some c → Ev (fun n => R2_FindElement_L1 n env s i n 0) (cond (c.elems.any (· == s)) (.rt (i, findI (· == s) 0 c.elems)) (.nx ())) := fun i c hi => by
  have h1 := loopEvI c.elems (fun n k j (_ : Unit) => R2_FindElement_L1 n env s i k j) (fun _ j x _ => some (cond (x == s) (.rt (i, j)) (.nx ()))) (fun j x _ => cond (x == s) (.rt (i, j)) (.nx ())) (fun _ => ()) (fun _ _ _ => True)
   (fun n k j _ => by
    show (idx env.carriers i).bind _ = _
    rw [hi, Option.bind_some]
    congr 1
    rw [Option.bind_some]
    congr 1
    funext x
    cases x == s <;> rfl)
   (fun j x suf _ hx _ => ⟨Ev.ret _, fun _ _ => trivial⟩) (s0 := ()) trivial
  have key : ∀ (l : List Str) (j : Int), runI (τ := Unit) (fun j x _ => cond (x == s) (.rt (i, j)) (.nx ())) (fun _ => ()) j l () = cond (l.any (· == s)) (.rt (i, findI (· == s) j l)) (.nx ()) := by
   intro l
   induction l with
   | nil => intro j; rfl
   | cons x l ih =>
    intro j
    simp only [runI, List.any_cons, findI]
    cases x == s with
    | true => rfl
    | false => exact ih (j + 1)
  rw [key] at h1
  exact h1
 have h2 := loopEvI env.carriers (fun n k i (_ : Unit) => R2_FindElement_L0 n env s k i) (fun n i _ _ => R2_FindElement_L1 n env s i n 0) (fun i c _ => cond (c.elems.any (· == s)) (.rt (i, findI (· == s) 0 c.elems)) (.nx ())) (fun _ => ()) (fun i suf _ => ∃ pre, env.carriers = pre ++ suf ∧ i = (pre.length : Int))
  (fun n k i _ => by
   show cond _ _ _ = _
   congr 1
   cases hi : idx env.carriers i with
   | none =>
    have : R2_FindElement_L1 n env s i n 0 = none := by
     cases n with
     | zero => rfl
     | succ m =>
      show (idx env.carriers i).bind _ = none
      rw [hi]; rfl
    rw [this]; rfl
   | some x => rfl)
  (fun i x suf _ hx hs => by
   obtain ⟨pre, hp, rfl⟩ := hs
   exact ⟨hin _ x (by rw [hp]; exact idx_at pre x suf), fun _ _ => ⟨pre ++ [x], by rw [hp]; simp, by simp⟩⟩) (s0 := ()) ⟨[], rfl, rfl⟩
 refine Ev.bind h2 ?_
 have key : ∀ (l : List Carrier) (i : Int), (match runI (τ := Unit) (fun i (c : Carrier) _ => cond (c.elems.any (· == s)) (.rt (i, findI (· == s) 0 c.elems)) (.nx ())) (fun _ => ()) i l () with | .nx _ => ((-1, -1) : Int × Int) | .rt r => r) = findE s i l := by
  intro l
  induction l with
  | nil => intro i; rfl
  | cons c l ih =>
   intro i
   simp only [runI, findE]
   cases c.elems.any (· == s) with
   | true => rfl
   | false => exact ih (i + 1)
 rw [← key env.carriers 0]
 generalize runI (τ := Unit) (fun i (c : Carrier) _ => cond (c.elems.any (· == s)) (.rt (i, findI (· == s) 0 c.elems)) (.nx ())) (fun _ => ()) 0 env.carriers () = R
 cases R
 ·exact Ev.ret _
 ·exact Ev.ret _
theorem FindName_ev (env : Env) (s : Str) : Ev (fun n => R2_FindName n env s) (findI (fun d => d.name == s) 0 env.names) := by
 unfold R2_FindName
 exact loopFind env.names (fun n k i => R2_FindName_L0 n env s k i) (fun _ x => some (x.name == s)) (fun c => c.name == s) (fun n k i => rfl) (fun x _ => Ev.ret _)
theorem denotes_env_ev (env : Env) (s : Str) : Ev (fun n => (R2_FindName n env s).bind fun (x1 : Int) => (cond (decide (0 ≤ x1)) ((idx env.names x1).bind fun (x2 : Decl) => some (x2.ty, true)) ((R2_FindCarrier n env s).bind fun (x3 : Int) => (cond (decide (0 ≤ x3)) (some ((Ty.mk 5 ([] : Str) ([(Ty.mk 3 s ([]))])), true)) ((R2_FindElement n env s).bind fun (x4 : Int × Int) => (cond (decide (0 ≤ x4.1)) ((idx env.carriers x4.1).bind fun (x5 : Carrier) => some ((Ty.mk 3 x5.name ([])), true)) (some ((Ty.mk 0 ([] : Str) ([])), false)))))))) (lookP env s) := by
 refine Ev.bind (FindName_ev env s) ?_
 unfold lookP look assoc2
 rw [mfind_append, mfind_append, mfind_map (fun d : Decl => d.name) (fun d => d.ty), mfind_map (fun c : Carrier => c.name) (fun c => tySet (tyC c.name)), mfind_flat]
 rcases findI_get (fun d : Decl => d.name == s) env.names [] with ⟨x, h1, h2, h3, h4⟩ | ⟨h1, h2⟩
 ·simp only [List.length_nil, Int.natCast_zero, List.nil_append] at h3 h4
  rw [h1, decide_eq_true h3, h4]
  exact Ev.ret _
 ·simp only [List.length_nil, Int.natCast_zero] at h2
  rw [h1, h2]
  simp only [show decide ((0 : Int) ≤ -1) = false from rfl, cond_false, Option.map_none]
  refine Ev.bind (FindCarrier_ev env s) ?_
  rcases findI_get (fun c : Carrier => c.name == s) env.carriers [] with ⟨x, h1, h2, h3, h4⟩ | ⟨h1, h2⟩
  ·simp only [List.length_nil, Int.natCast_zero, List.nil_append] at h3 h4
   rw [h1, decide_eq_true h3]
   have e : x.name = s := by simpa using h2
   subst e
   exact Ev.ret _
  ·simp only [List.length_nil, Int.natCast_zero] at h2
   rw [h1, h2]
   simp only [show decide ((0 : Int) ≤ -1) = false from rfl, cond_false, Option.map_none]
   refine Ev.bind (FindElement_ev env s) ?_
   rw [findE_fst]
   rcases findI_get (fun c : Carrier => c.elems.any (· == s)) env.carriers [] with ⟨x, h1, h2, h3, h4⟩ | ⟨h1, h2⟩
   ·simp only [List.length_nil, Int.natCast_zero, List.nil_append] at h3 h4
    rw [h1, decide_eq_true h3, h4]
    exact Ev.ret _
   ·simp only [List.length_nil, Int.natCast_zero] at h2
    rw [h1, h2]
    exact Ev.ret _
def smallB (env : Env) : Bool := !(decide (200 < (env.carriers.length : Int)) || decide (200 < (env.names.length : Int))) && !(env.carriers.any fun c => decide (200 < (c.elems.length : Int)))
theorem small_ev (env : Env) : Ev (fun n => L2_small n env) (smallB env) := by
 unfold L2_small smallB
 have h := loopStop env.carriers (fun n k i => L2_small_L0 n env k i) (fun _ x => some (decide (200 < (x.elems.length : Int)))) (fun x => decide (200 < (x.elems.length : Int))) false (fun n k i => rfl) (fun x _ => Ev.ret _)
 cases decide (200 < (env.carriers.length : Int)) with
 | true => exact Ev.ret _
 | false =>
  cases decide (200 < (env.names.length : Int)) with
  | true => exact Ev.ret _
  | false =>
   simp only [cond_false, Option.bind_some, Bool.or_false, Bool.not_false, Bool.true_and]
   refine Ev.bind h ?_
   cases env.carriers.any fun c => decide (200 < (c.elems.length : Int))
   ·exact Ev.ret _
   ·exact Ev.ret _
end Abs
end Go.Proofs.YtiiaccpcoclklaaGreat
namespace Go.Proofs.YtiiaccpcoclklaaGreat
namespace Abs
open Go
theorem idx_zip {α β γ : Type} (l : List α) (l' : List β) (i : Int) (F : α → β → Option γ) : ((idx l i).bind fun x => (idx l' i).bind fun y => F x y) = (idx (l.zip l') i).bind fun p => F p.1 p.2 := by
 unfold idx
 by_cases h : 0 ≤ i
 ·simp only [if_pos h, List.zip, List.getElem?_zipWith]
  cases l[i.toNat]? <;> cases l'[i.toNat]? <;> rfl
 ·simp only [if_neg h]; rfl
theorem loopStop2 {α β ρ : Type} (l : List α) (l' : List β) (hlen : l.length = l'.length) (L : Nat → Nat → Int → Option (LR Unit ρ)) (step : Nat → α → β → Option Bool) (p : α → β → Bool) (r : ρ)
  (hL : ∀ n k i, L n (k + 1) i = cond (decide (i < (l.length : Int))) ((idx l i).bind fun x => (idx l' i).bind fun y => (step n x y).bind fun b => cond b (some (.rt r)) (L n k (i + 1))) (some (.nx ())))
  (hp : ∀ x ∈ l, ∀ y, Ev (fun n => step n x y) (p x y)) : Ev (fun n => L n n 0) (cond ((l.zip l').any fun q => p q.1 q.2) (.rt r) (.nx ())) := by
 refine loopStop (l.zip l') L (fun n q => step n q.1 q.2) (fun q => p q.1 q.2) r (fun n k i => ?_) (fun q hq => hp q.1 (List.of_mem_zip hq).1 q.2)
 rw [hL, ← idx_zip l l' i fun x y => (step n x y).bind fun b => cond b (some (.rt r)) (L n k (i + 1))]
 have : ((l.zip l').length : Int) = (l.length : Int) := by rw [List.length_zip, ← hlen, Nat.min_self]
 rw [this]
mutual
def tyEq : Ty → Ty → Bool
 | .mk k n ks, .mk k' n' ks' => (k == k') && ((n == n') && tysEq ks ks')
def tysEq : List Ty → List Ty → Bool
 | [], [] => true
 | [], _ :: _ => false
 | _ :: _, [] => false
 | a :: ar, b :: br => tyEq a b && tysEq ar br
end
mutual
theorem tyEq_eq : ∀ a b : Ty, tyEq a b = true → a = b
 | .mk k n ks, .mk k' n' ks', h => by
  simp only [tyEq, Bool.and_eq_true, beq_iff_eq] at h
  obtain ⟨h1, h2, h3⟩ := h
  rw [h1, h2, tysEq_eq ks ks' h3]
theorem tysEq_eq : ∀ a b : List Ty, tysEq a b = true → a = b
 | [], [], _ => rfl
 | [], _ :: _, h => by cases h
 | _ :: _, [], h => by cases h
 | a :: ar, b :: br, h => by
  simp only [tysEq, Bool.and_eq_true] at h
  rw [tyEq_eq a b h.1, tysEq_eq ar br h.2]
end
mutual
theorem tyEq_refl : ∀ a : Ty, tyEq a a = true
 | .mk k n ks => by simp only [tyEq, beq_self_eq_true, tysEq_refl ks, Bool.and_self]
theorem tysEq_refl : ∀ a : List Ty, tysEq a a = true
 | [] => rfl
 | a :: ar => by simp only [tysEq, tyEq_refl a, tysEq_refl ar, Bool.and_self]
end
theorem tysEq_zip : ∀ l l' : List Ty, l.length = l'.length → (l.zip l').any (fun q => !(tyEq q.1 q.2)) = !(tysEq l l')
 | [], [], _ => rfl
 | [], _ :: _, h => by cases h
 | _ :: _, [], h => by cases h
 | a :: ar, b :: br, h => by
  have := tysEq_zip ar br (by simpa using h)
  simp only [List.zip_cons_cons, List.any_cons, this, tysEq]
  cases tyEq a b <;> rfl
theorem tysEq_len : ∀ l l' : List Ty, l.length ≠ l'.length → tysEq l l' = false
 | [], [], h => absurd rfl h
 | [], _ :: _, _ => rfl
 | _ :: _, [], _ => rfl
 | a :: ar, b :: br, h => by
  have := tysEq_len ar br (by simpa using h)
  simp only [tysEq, this, Bool.and_false]
theorem lenB {α β : Type} (l : List α) (l' : List β) : ((l.length : Int) != (l'.length : Int)) = !(l.length == l'.length) := len_ne l.length l'.length
theorem SameType2_ev : ∀ t u : Ty, Ev (fun n => R1_SameType n t u) (tyEq t u) := Ty.ind fun k nm ks ih u => by
 obtain ⟨k', nm', ks'⟩ := u
 refine Ev.succ ?_
 show Ev (fun n => R1_SameType_body n _ (.mk k nm ks) (.mk k' nm' ks')) _
 unfold R1_SameType_body
 simp only [Ty.kind, Ty.name, Ty.kids, tyEq, bne, lenB]
 cases k == k' with
 | false => exact Ev.ret _
 | true =>
  cases nm == nm' with
  | false => exact Ev.ret _
  | true =>
   simp only [Bool.not_true, cond_false, Option.bind_some, Bool.true_and]
   cases hl : (ks.length : Int) == (ks'.length : Int) with
   | false =>
    have : ks.length ≠ ks'.length := fun e => by simp [e] at hl
    rw [tysEq_len ks ks' this]
    exact Ev.ret _
   | true =>
    have hlen : ks.length = ks'.length := by have := beq_iff_eq.1 hl; omega
    simp only [Bool.not_true, cond_false]
    have h := loopStop2 ks ks' hlen (fun n k'' i => R1_SameType_L0 n (fun p0 p1 => R1_SameType n p0 p1) (.mk k nm ks) (.mk k' nm' ks') k'' i) (fun n x y => (R1_SameType n x y).bind fun b => some (!b)) (fun x y => !(tyEq x y)) false
     (fun n k'' i => by
      show cond _ _ _ = _
      congr 1
      show (idx ks i).bind _ = _
      congr 1
      funext x
      show (idx ks' i).bind _ = _
      congr 1
      funext y
      simp only [Option.bind_assoc, Option.bind_some])
     (fun x hx y => Ev.bind (ih x hx y) (Ev.ret _))
    rw [tysEq_zip ks ks' hlen] at h
    refine Ev.bind h ?_
    cases tysEq ks ks'
    ·exact Ev.ret _
    ·exact Ev.ret _
theorem equal_ev : ∀ t u : Ty, Ev (fun n => typing_equal n t u) (tyEq t u) := Ty.ind fun k nm ks ih u => by
 obtain ⟨k', nm', ks'⟩ := u
 refine Ev.succ ?_
 show Ev (fun n => typing_equal_body n _ _ (.mk k nm ks) (.mk k' nm' ks')) _
 unfold typing_equal_body
 simp only [Ty.kind, Ty.name, Ty.kids, tyEq]
 cases k == k' with
 | false => exact Ev.ret _
 | true =>
  cases nm == nm' with
  | false => exact Ev.ret _
  | true =>
   simp only [cond_true, Bool.true_and]
   refine Ev.bind (a := tysEq ks ks') (Ev.bind (a := tysEq ks ks') (Ev.succ ?_) (Ev.ret _)) (Ev.ret _)
   show Ev (fun n => slices_EqualFunc_Type_body n _ _ ks ks') _
   unfold slices_EqualFunc_Type_body
   simp only [bne]
   cases hl : (ks.length : Int) == (ks'.length : Int) with
   | false =>
    have : ks.length ≠ ks'.length := fun e => by simp [e] at hl
    rw [tysEq_len ks ks' this]
    exact Ev.ret _
   | true =>
    have hlen : ks.length = ks'.length := by have := beq_iff_eq.1 hl; omega
    simp only [Bool.not_true, cond_false]
    have h := loopStop2 ks ks' hlen (fun n k'' i => slices_EqualFunc_Type_L0 n (fun p0 p1 => slices_EqualFunc_Type n p0 p1) (fun p0 p1 => typing_equal n p0 p1) ks ks' k'' i) (fun n x y => (typing_equal n x y).bind fun b => some (!b)) (fun x y => !(tyEq x y)) false
     (fun n k'' i => by
      show cond _ _ _ = _
      congr 1
      congr 1
      funext x
      congr 1
      funext y
      simp only [Option.bind_assoc, Option.bind_some])
     (fun x hx y => Ev.bind (ih x hx y) (Ev.ret _))
    rw [tysEq_zip ks ks' hlen] at h
    refine Ev.bind h ?_
    cases tysEq ks ks'
    ·exact Ev.ret _
    ·exact Ev.ret _
structure Joined (a b : Env) (cs : List Carrier) (ds : List Decl) : Prop where
 c1 : ∀ c ∈ a.carriers, c ∈ cs
 c2 : ∀ c ∈ b.carriers, c ∈ cs
 c3 : ∀ c ∈ cs, c ∈ a.carriers ∨ c ∈ b.carriers
 d1 : ∀ d ∈ a.names, d ∈ ds
 d2 : ∀ d ∈ b.names, d ∈ ds
 d3 : ∀ d ∈ ds, d ∈ a.names ∨ d ∈ b.names
 cl : cs.length ≤ a.carriers.length + b.carriers.length
 dl : ds.length ≤ a.names.length + b.names.length
end Abs
end Go.Proofs.YtiiaccpcoclklaaGreat
namespace Go.Proofs.YtiiaccpcoclklaaGreat
namespace Abs
open Go
theorem Tm.ind {P : Tm → Prop} (h : ∀ k n m t ks, (∀ t ∈ ks, P t) → P (.mk k n m t ks)) (t : Tm) : P t := by
 match t with
 | .mk k n m ty ks => exact h k n m ty ks fun u _ => Tm.ind h u
termination_by SizeOf.sizeOf t
decreasing_by
 rename_i hu
 have := List.sizeOf_lt_of_mem hu
 simp only [Tm.mk.sizeOf_spec]
 omega
def kidsN (op : Int) : Int :=
 cond ((op == 1 || (op == 2 || (op == 19 || (op == 20 || op == 29))))) 0
  (cond ((op == 3 || (op == 21 || (decide (46 ≤ op) && decide (op ≤ 52))))) 1 (cond (op == 28) (-1) (cond (decide (4 ≤ op) && decide (op ≤ 56)) 2 (-2))))
def bindB (op : Int) : Bool := op == 8 || (op == 9 || (op == 55 || op == 56))
theorem orC (a b : Bool) : (cond a (some true) (some b)) = some (a || b) := by cases a <;> rfl
theorem orS (a b : Bool) : (cond a (some a) (some b)) = some (a || b) := by cases a <;> rfl
theorem andC (a b : Bool) : (cond a (some b) (some false)) = some (a && b) := by cases a <;> rfl
theorem R1_kids_eq (n : Nat) (op : Int) : R1_kids n op = some (kidsN op) := by
 unfold R1_kids kidsN
 simp only [orC, andC, Option.bind_some]
 cases (op == 1 || (op == 2 || (op == 19 || (op == 20 || op == 29)))) with
 | true => rfl
 | false =>
  cases (op == 3 || (op == 21 || (decide (46 ≤ op) && decide (op ≤ 52)))) with
  | true => rfl
  | false =>
   cases (op == 28) with
   | true => rfl
   | false => cases (decide (4 ≤ op) && decide (op ≤ 56)) <;> rfl
theorem to52 (op : Int) : ((decide (46 ≤ op) && decide (op ≤ 51)) || op == 52) = (decide (46 ≤ op) && decide (op ≤ 52)) := by
 by_cases h1 : 46 ≤ op
 ·by_cases h2 : op ≤ 51
  ·simp [h1, h2, show op ≤ 52 by omega]
  ·by_cases h3 : op = 52
   ·subst h3; rfl
   ·simp [h2, h3, show ¬ op ≤ 52 by omega]
 ·simp [h1, show op ≠ 52 by omega]
theorem term_kids_eq (n : Nat) (op : Int) : term_kids n op = some (cond (kidsN op == -2) (0, false) (kidsN op, true)) := by
 unfold term_kids kidsN
 simp only [orS, andC, Option.bind_some, to52]
 cases h1 : (op == 1 || (op == 2 || (op == 19 || (op == 20 || op == 29)))) with
 | true => rfl
 | false =>
  cases h2 : (op == 3 || (op == 21 || (decide (46 ≤ op) && decide (op ≤ 52)))) with
  | true => rfl
  | false =>
   cases (op == 28) with
   | true => rfl
   | false =>
    simp only [Bool.or_eq_false_iff, beq_eq_false_iff_ne] at h1 h2
    have e : (decide (1 ≤ op) && decide (op ≤ 56)) = (decide (4 ≤ op) && decide (op ≤ 56)) := by
     by_cases h : 4 ≤ op
     ·simp [h, show 1 ≤ op by omega]
     ·simp [h, show ¬ 1 ≤ op by omega]
    rw [e]
    cases (decide (4 ≤ op) && decide (op ≤ 56)) <;> rfl
theorem binder_eq (n : Nat) (op : Int) : term_binder n op = some (bindB op) := by
 unfold term_binder bindB
 simp only [orC, Option.bind_some]
theorem Binder_eq (n : Nat) (op : Int) : R1_Binder n op = some (bindB op) := by
 unfold R1_Binder bindB
 simp only [orC, Option.bind_some]
def zeroTyB (t : Ty) : Bool := t.kind == 0 && (t.name == [] && (t.kids.length : Int) == 0)
theorem zeroType_eq (n : Nat) (t : Ty) : term_zeroType n t = some (zeroTyB t) := by
 unfold term_zeroType zeroTyB
 simp only [andC, Option.bind_some]
theorem R1_zeroType_eq (n : Nat) (t : Ty) : R1_zeroType n t = some (zeroTyB t) := by
 unfold R1_zeroType zeroTyB
 simp only [andC, Option.bind_some]
def nameB (t : Tm) : Bool := cond (t.op == 20) (named t.name) (cond (bindB t.op) (ident t.name) (t.name == []))
def numB (t : Tm) : Bool := cond (t.op == 19) (decide (0 ≤ t.n) && decide (t.n ≤ 1000000000)) (t.n == 0)
def tyB (t : Tm) : Bool := cond (t.op == 29) (validT t.ty && t.ty.kind != 2) (zeroTyB t.ty)
def lenTB (t : Tm) : Bool := !(kidsN t.op == -2) && cond (kidsN t.op == -1) (!((t.kids.length : Int) == 0)) ((t.kids.length : Int) == kidsN t.op)
def nodeB (t : Tm) : Bool := lenTB t && (nameB t && (numB t && tyB t))
theorem formed_ev (t : Tm) (hs : t.name.length ≤ 9223372036854775807) : Ev (fun n => term_formed n t) (nodeB t) := by
 unfold term_formed nodeB
 simp only [term_kids_eq, Option.bind_some]
 have hfirst : Ev (fun n => ((((cond (!(cond (kidsN t.op == -2) ((0 : Int), false) (kidsN t.op, true)).2) (some (!(cond (kidsN t.op == -2) ((0 : Int), false) (kidsN t.op, true)).2)) (((cond ((cond (kidsN t.op == -2) ((0 : Int), false) (kidsN t.op, true)).1 == (-1)) (some ((t.kids.length : Int) == 0)) (some false)) : Option Bool).bind fun (s6 : Bool) => (cond s6 (some s6) (cond ((cond (kidsN t.op == -2) ((0 : Int), false) (kidsN t.op, true)).1 != (-1)) (some ((t.kids.length : Int) != (cond (kidsN t.op == -2) ((0 : Int), false) (kidsN t.op, true)).1)) (some false))))) : Option Bool)).bind fun (s5 : Bool) => (cond s5 (some (.rt false)) (cond (t.op == 20) ((term_named n t.name).bind fun (x4 : Bool) => some (.nx x4)) ((term_binder n t.op).bind fun (x5 : Bool) => (cond x5 ((term_Identifier n t.name).bind fun (x6 : Bool) => some (.nx x6)) (some (.nx (t.name == ([] : Str)))))))) : Option (LR Bool Bool))) (cond (lenTB t) (.nx (nameB t)) (.rt false)) := by
  refine Ev.bind (a := !(lenTB t)) ?_ ?_
  ·refine Ev.of fun n => ?_
   unfold lenTB
   cases h2 : kidsN t.op == -2 with
   | true => rfl
   | false =>
    simp only [cond_false, Bool.not_true, Bool.not_false, Bool.true_and]
    cases h1 : kidsN t.op == -1 with
    | true =>
     simp only [cond_true, Option.bind_some, bne, h1, Bool.not_true, cond_false]
     cases (t.kids.length : Int) == 0 <;> rfl
    | false =>
     simp only [cond_false, Option.bind_some, bne, h1, Bool.not_false, cond_true]
  ·cases lenTB t with
   | false => exact Ev.ret _
   | true =>
    simp only [Bool.not_true, cond_false, cond_true, nameB, binder_eq, Option.bind_some]
    cases t.op == 20 with
    | true =>
     refine Ev.bind (a := named t.name) ?_ (Ev.ret _)
     exact nameable_ev t.name hs
    | false =>
     cases bindB t.op with
     | true => exact Ev.bind (term_Identifier_ev _) (Ev.ret _)
     | false => exact Ev.ret _
 refine Ev.bind hfirst ?_
 cases lenTB t with
 | false => exact Ev.ret _
 | true =>
  simp only [cond_true, Bool.true_and]
  refine Ev.bind (a := nameB t && numB t) ?_ ?_
  ·unfold numB
   refine Ev.of fun n => ?_
   cases t.op == 19 <;> cases nameB t <;> cases decide (0 ≤ t.n) <;> rfl
  ·unfold tyB
   cases t.op == 29 with
   | true =>
    simp only [cond_true]
    refine Ev.bind (a := nameB t && (numB t && (validT t.ty && t.ty.kind != 2))) ?_ (Ev.ret _)
    cases nameB t with
    | false => exact Ev.ret _
    | true =>
     cases numB t with
     | false => exact Ev.ret _
     | true =>
      simp only [Bool.true_and, cond_true]
      cases hk : t.ty.kind != 2 with
      | false => simp only [cond_false, Bool.and_false]; exact Ev.ret _
      | true => simp only [cond_true, Bool.and_true]; exact Ev.bind (term_ValidType_ev _) (Ev.ret _)
   | false =>
    simp only [cond_false, zeroType_eq, Option.bind_some]
    refine Ev.of fun n => ?_
    cases nameB t <;> cases numB t <;> rfl
theorem R1_node_ev (t : Tm) : Ev (fun n => R1_node n t) (nodeB t) := by
 unfold R1_node nodeB
 simp only [R1_kids_eq, Option.bind_some]
 refine Ev.bind (a := !(lenTB t)) ?_ ?_
 ·refine Ev.of fun n => ?_
  unfold lenTB
  cases h2 : kidsN t.op == -2 with
  | true => rfl
  | false =>
   simp only [cond_false, Bool.not_true, Bool.not_false, Bool.true_and]
   cases h1 : kidsN t.op == -1 with
   | true =>
    have e : kidsN t.op = -1 := by simpa using h1
    rw [e]
    cases (t.kids.length : Int) == 0 <;> rfl
   | false =>
    have hge : decide (0 ≤ kidsN t.op) = true := by
     unfold kidsN at h1 h2 ⊢
     revert h1 h2
     cases (t.op == 1 || (t.op == 2 || (t.op == 19 || (t.op == 20 || t.op == 29)))) <;> cases (t.op == 3 || (t.op == 21 || (decide (46 ≤ t.op) && decide (t.op ≤ 52)))) <;> cases (t.op == 28) <;> cases (decide (4 ≤ t.op) && decide (t.op ≤ 56)) <;> intro h1 h2 <;> first | rfl | exact absurd h1 (by decide) | exact absurd h2 (by decide)
    simp only [cond_false, hge, cond_true, bne]
 ·cases lenTB t with
  | false => exact Ev.ret _
  | true =>
   simp only [Bool.not_true, cond_false, Bool.true_and]
   refine Ev.bind (a := cond (nameB t) (.nx ()) (.rt false)) ?_ ?_
   ·unfold nameB
    simp only [Binder_eq, Option.bind_some]
    cases t.op == 20 with
    | true =>
     refine Ev.bind (R1_Named_ev _) ?_
     simp only [cond_true]
     cases named t.name
     ·exact Ev.ret _
     ·exact Ev.ret _
    | false =>
     simp only [cond_false]
     cases bindB t.op with
     | true =>
      refine Ev.bind (R1_Identifier_ev _) ?_
      simp only [cond_true]
      cases ident t.name
      ·exact Ev.ret _
      ·exact Ev.ret _
     | false =>
      simp only [cond_false]
      cases t.name == ([] : Str)
      ·exact Ev.ret _
      ·exact Ev.ret _
   ·cases nameB t with
    | false => exact Ev.ret _
    | true =>
     simp only [cond_true, Bool.true_and]
     refine Ev.bind (a := !(numB t)) ?_ ?_
     ·refine Ev.of fun n => ?_
      unfold numB
      cases h19 : t.op == 19 with
      | true =>
       simp only [cond_true, bne, h19, Bool.not_true, cond_false]
       by_cases h0 : t.n < 0
       ·rw [decide_eq_true h0, decide_eq_false (show ¬ 0 ≤ t.n by omega)]; rfl
       ·rw [decide_eq_false h0, decide_eq_true (show 0 ≤ t.n by omega)]
        by_cases hb : 1000000000 < t.n
        ·rw [decide_eq_true hb, decide_eq_false (show ¬ t.n ≤ 1000000000 by omega)]; rfl
        ·rw [decide_eq_false hb, decide_eq_true (show t.n ≤ 1000000000 by omega)]; rfl
      | false => simp only [cond_false, bne, h19, Bool.not_false, cond_true]
     ·cases numB t with
      | false => exact Ev.ret _
      | true =>
       simp only [Bool.not_true, cond_false, Bool.true_and]
       unfold tyB
       cases t.op == 29 with
       | true =>
        simp only [cond_true]
        refine Ev.bind (a := validT t.ty && t.ty.kind != 2) (Ev.bind (R1_ValidType_ev _) ?_) (Ev.ret _)
        cases validT t.ty
        ·exact Ev.ret _
        ·exact Ev.ret _
       | false =>
        simp only [cond_false, R1_zeroType_eq, Option.bind_some]
        exact Ev.ret _
mutual
def mf : Tm → Int → Int → Bool × Int
 | .mk op nm m ty ks, d, c => cond ((decide (c + 1 ≤ 2000) && decide (d ≤ 64)) && nodeB (.mk op nm m ty ks)) (mfs ks (d + 1) (c + 1)) (false, c + 1)
def mfs : List Tm → Int → Int → Bool × Int
 | [], _, c => (true, c)
 | t :: ts, d, c => cond (mf t d c).1 (mfs ts d (mf t d c).2) (false, (mf t d c).2)
end
mutual
theorem mf_le : ∀ (t : Tm) (d c : Int), (mf t d c).1 = true → c < (mf t d c).2 ∧ (mf t d c).2 ≤ 2000
 | .mk op nm m ty ks, d, c, h => by
  simp only [mf] at h ⊢
  cases hb : ((decide (c + 1 ≤ 2000) && decide (d ≤ 64)) && nodeB (.mk op nm m ty ks)) with
  | false => rw [hb] at h; cases h
  | true =>
   rw [hb] at h
   simp only [cond_true] at h ⊢
   simp only [Bool.and_eq_true, decide_eq_true_eq] at hb
   have := mfs_le ks (d + 1) (c + 1) h
   omega
theorem mfs_le : ∀ (ts : List Tm) (d c : Int), (mfs ts d c).1 = true → c ≤ (mfs ts d c).2 ∧ (c ≤ 2000 → (mfs ts d c).2 ≤ 2000)
 | [], _, c, _ => by simp [mfs]
 | t :: ts, d, c, h => by
  simp only [mfs] at h ⊢
  cases hb : (mf t d c).1 with
  | false => rw [hb] at h; cases h
  | true =>
   rw [hb] at h
   simp only [cond_true] at h ⊢
   have h1 := mf_le t d c hb
   have h2 := mfs_le ts d _ h
   exact ⟨by omega, fun _ => h2.2 h1.2⟩
end
mutual
def tmS : Tm → Prop
 | .mk _ nm _ _ ks => nm.length ≤ 9223372036854775807 ∧ tmsS ks
def tmsS : List Tm → Prop
 | [] => True
 | t :: ts => tmS t ∧ tmsS ts
end
theorem tmsS_mem : ∀ {ts : List Tm}, tmsS ts → ∀ t ∈ ts, tmS t
 | [], _, t, h => by cases h
 | u :: ts, h, t, ht => by
  simp only [tmsS] at h
  rcases List.mem_cons.1 ht with rfl | ht
  ·exact h.1
  ·exact tmsS_mem h.2 t ht
theorem enterT_eq (n : Nat) (c d : Int) (h0 : 0 ≤ c) (h1 : c ≤ 2000) : term_measure_enter n c 2000 64 d = some (decide (c + 1 ≤ 2000) && decide (d ≤ 64), c + 1) := by
 unfold term_measure_enter
 rw [wrap64 (by omega) (by omega)]
 cases decide (c + 1 ≤ 2000) <;> rfl
def FitM (t : Tm) : Prop := tmS t → ∀ d c : Int, 1 ≤ d → d ≤ 65 → 0 ≤ c → c ≤ 2000 → Ev (fun n => term_measure_fits n c 2000 64 t d) (mf t d c)
theorem mfs_run (d : Int) : ∀ (ts : List Tm) (i c : Int), 0 ≤ i → (∃ j, 0 ≤ j ∧ (mfs ts d c).1 = false ∧ runI (τ := Int) (fun i x s => cond (!(mf x d s).1) (.rt (i, (mf x d s).2)) (.nx (mf x d s).2)) (fun s => s) i ts c = .rt (j, (mfs ts d c).2)) ∨ ((mfs ts d c).1 = true ∧ runI (ρ := Int × Int) (fun i x s => cond (!(mf x d s).1) (.rt (i, (mf x d s).2)) (.nx (mf x d s).2)) (fun s => s) i ts c = .nx (mfs ts d c).2)
 | [], i, c, _ => .inr ⟨rfl, rfl⟩
 | t :: ts, i, c, hi => by
  simp only [mfs, runI]
  cases hb : (mf t d c).1 with
  | false => exact .inl ⟨i, hi, rfl, rfl⟩
  | true => exact mfs_run d ts (i + 1) _ (by omega)
theorem fitsM_kids (ts : List Tm) (h : ∀ t ∈ ts, FitM t) (hS : tmsS ts) (d c : Int) (hd : 1 ≤ d) (hd6 : d ≤ 64) (h0 : 0 ≤ c) (h1 : c ≤ 2000) : Ev (fun n => slices_ContainsFunc_Term n ts c 2000 64 d) (!(mfs ts (d + 1) c).1, (mfs ts (d + 1) c).2) := by
 refine Ev.succ ?_
 show Ev (fun n => slices_ContainsFunc_Term_body n _ _ _ _ ts c 2000 64 d) _
 unfold slices_ContainsFunc_Term_body
 have hloop := loopEvI ts (fun n k i s => slices_IndexFunc_Term_L0 n (fun p0 p1 p2 p3 p4 => slices_IndexFunc_Term n p0 p1 p2 p3 p4) (fun p0 p1 p2 p3 p4 => slices_ContainsFunc_Term n p0 p1 p2 p3 p4) (fun p0 p1 p2 p3 p4 => term_measure_fits n p0 p1 p2 p3 p4) (fun p0 p1 p2 p3 p4 => term_measure_fits_1 n p0 p1 p2 p3 p4) ts 2000 64 d k (i, s))
  (fun n i x s => (term_measure_fits_1 n x s 2000 64 d).bind fun x2 => cond x2.1 (some (.rt (i, x2.2))) (some (.nx x2.2))) (fun i x s => cond (!(mf x (d + 1) s).1) (.rt (i, (mf x (d + 1) s).2)) (.nx (mf x (d + 1) s).2)) (fun s => s) (fun _ _ s => 0 ≤ s ∧ s ≤ 2000)
  (fun n k i s => by
   show cond _ _ _ = _
   congr 1
   congr 1
   funext x
   dsimp only
   cases term_measure_fits_1 n x s 2000 64 d with
   | none => rfl
   | some b => obtain ⟨b, e⟩ := b; cases b <;> rfl)
  (fun i x suf s hx hs => ⟨by
   have hfit : Ev (fun n => term_measure_fits_1 n x s 2000 64 d) (!(mf x (d + 1) s).1, (mf x (d + 1) s).2) := by
    refine Ev.succ ?_
    show Ev (fun n => term_measure_fits_1_body n _ _ _ _ x s 2000 64 d) _
    unfold term_measure_fits_1_body
    have := h x hx (tmsS_mem hS x hx) (d + 1) s (by omega) (by omega) hs.1 hs.2
    rw [wrap64 (by omega) (by omega)]
    exact Ev.bind this (Ev.ret _)
   refine Ev.bind hfit ?_
   cases (mf x (d + 1) s).1
   ·exact Ev.ret _
   ·exact Ev.ret _, fun s' he => by
    cases hb : (mf x (d + 1) s).1 with
    | false => rw [hb] at he; cases he
    | true =>
     rw [hb] at he
     simp only [Bool.not_true, cond_false, LR.nx.injEq] at he
     have := mf_le x (d + 1) s hb
     omega⟩) (s0 := c) ⟨h0, h1⟩
 rcases mfs_run (d + 1) ts 0 c (Int.le_refl _) with ⟨j, hj, hf, hr⟩ | ⟨ht, hr⟩
 ·rw [hr] at hloop
  refine Ev.bind (a := (j, (mfs ts (d + 1) c).2)) (Ev.succ ?_) ?_
  ·show Ev (fun n => slices_IndexFunc_Term_body n _ _ _ _ ts c 2000 64 d) _
   unfold slices_IndexFunc_Term_body
   exact Ev.bind hloop (Ev.ret _)
  ·rw [hf]
   simp only [decide_eq_true hj]
   exact Ev.ret _
 ·rw [hr] at hloop
  refine Ev.bind (a := (-1, (mfs ts (d + 1) c).2)) (Ev.succ ?_) ?_
  ·show Ev (fun n => slices_IndexFunc_Term_body n _ _ _ _ ts c 2000 64 d) _
   unfold slices_IndexFunc_Term_body
   exact Ev.bind hloop (Ev.ret _)
  ·rw [ht]
   exact Ev.ret _
theorem fitsM : ∀ t : Tm, FitM t := Tm.ind fun op nm m ty ks ih hS d c hd hd7 h0 h1 => by
 refine Ev.succ ?_
 show Ev (fun n => term_measure_fits_body n _ _ _ _ c 2000 64 (.mk op nm m ty ks) d) _
 unfold term_measure_fits_body
 simp only [tmS] at hS
 simp only [enterT_eq _ c d h0 h1, Option.bind_some, mf]
 cases hb : (decide (c + 1 ≤ 2000) && decide (d ≤ 64)) with
 | false => exact Ev.ret _
 | true =>
  simp only [Bool.and_eq_true, decide_eq_true_eq] at hb
  simp only [Bool.not_true, cond_false, Bool.true_and]
  refine Ev.bind (a := (!(nodeB (.mk op nm m ty ks)), c + 1)) (Ev.bind (formed_ev (.mk op nm m ty ks) hS.1) (Ev.ret _)) ?_
  cases nodeB (.mk op nm m ty ks) with
  | false => exact Ev.ret _
  | true =>
   simp only [Bool.not_true, cond_false, cond_true]
   refine Ev.bind (fitsM_kids ks ih hS.2 d (c + 1) hd hb.2 (by omega) hb.1) ?_
   simp only [Bool.not_not]
   exact Ev.ret _
def validM (t : Tm) : Bool := (mf t 1 0).1
theorem term_Valid_ev (t : Tm) (hS : tmS t) : Ev (fun n => term_Valid n t) (validM t) := by
 unfold term_Valid
 exact Ev.bind (fitsM t hS 1 0 (by omega) (by omega) (by omega) (by omega)) (Ev.ret _)
def mt (t : Tm) (d c : Int) : Int := cond (mf t d c).1 (mf t d c).2 (-1)
def NodesE (t : Tm) : Prop := ∀ d c : Int, 1 ≤ d → d ≤ 65 → 0 ≤ c → c ≤ 2000 → Ev (fun n => R1_nodes n t d c) (mt t d c)
theorem mts_run (d : Int) : ∀ (ts : List Tm) (c : Int), 0 ≤ c → runL (τ := Int) (fun x s => cond (decide (mt x d s < 0)) (.rt (-1)) (.nx (mt x d s))) (fun s => s) ts c = cond (mfs ts d c).1 (.nx (mfs ts d c).2) (.rt (-1))
 | [], c, _ => rfl
 | t :: ts, c, h0 => by
  simp only [mfs, runL]
  by_cases hb : (mf t d c).1 = true
  ·have h1 := mf_le t d c hb
   have h2 : mt t d c = (mf t d c).2 := by simp only [mt, hb, cond_true]
   have h3 : decide ((mf t d c).2 < 0) = false := decide_eq_false (by omega)
   simp only [h2, h3, hb, cond_true, cond_false]
   exact mts_run d ts (mf t d c).2 (by omega)
  ·have hb' : (mf t d c).1 = false := by simpa using hb
   have h2 : mt t d c = -1 := by simp only [mt, hb', cond_false]
   have h3 : decide (mt t d c < 0) = true := decide_eq_true (by omega)
   simp only [h3, hb', cond_true, cond_false]
theorem nodes : ∀ t : Tm, NodesE t := Tm.ind fun op nm m ty ks ih d c hd hd7 h0 h1 => by
 refine Ev.succ ?_
 show Ev (fun n => R1_nodes_body n _ (.mk op nm m ty ks) d c) _
 unfold R1_nodes_body
 simp only [mt, mf]
 rw [wrap64 (by omega) (by omega)]
 by_cases hd6 : d ≤ 64
 case neg =>
  rw [decide_eq_true (show 64 < d by omega), decide_eq_false hd6]
  simp only [Bool.and_false, Bool.false_and, cond_false]
  exact Ev.ret _
 by_cases hc : c + 1 ≤ 2000
 case neg =>
  rw [decide_eq_false (show ¬ 64 < d by omega), decide_eq_true (show 2000 < c + 1 by omega), decide_eq_false hc]
  simp only [Bool.false_and, cond_false, cond_true]
  exact Ev.ret _
 rw [decide_eq_false (show ¬ 64 < d by omega), decide_eq_false (show ¬ 2000 < c + 1 by omega), decide_eq_true hd6, decide_eq_true hc]
 simp only [cond_false, Bool.true_and]
 refine Ev.bind (a := !(nodeB (.mk op nm m ty ks))) (Ev.bind (R1_node_ev _) (Ev.ret _)) ?_
 cases nodeB (.mk op nm m ty ks) with
 | false => exact Ev.ret _
 | true =>
  simp only [Bool.not_true, cond_false, cond_true]
  have hloop := loopEv ks (fun n k' i s => R1_nodes_L0 n (fun p0 p1 p2 => R1_nodes n p0 p1 p2) (.mk op nm m ty ks) d k' (s, i)) (fun n x s => (R1_nodes n x (IntKind.wrap .i64 (d + 1)) s).bind fun x2 => cond (decide (x2 < 0)) (some (.rt (-1))) (some (.nx x2)))
   (fun x s => cond (decide (mt x (d + 1) s < 0)) (.rt (-1)) (.nx (mt x (d + 1) s))) (fun s => s) (fun _ s => 0 ≤ s ∧ s ≤ 2000)
   (fun n k' i s => by
    show cond _ _ _ = _
    congr 1
    show (idx ks i).bind _ = _
    congr 1
    funext x
    dsimp only
    cases R1_nodes n x (IntKind.wrap .i64 (d + 1)) s with
    | none => rfl
    | some b => simp only [Option.bind_some]; cases decide (b < 0) <;> rfl)
   (fun x suf s hx hs => ⟨by
    rw [wrap64 (by omega) (by omega)]
    refine Ev.bind (ih x hx (d + 1) s (by omega) (by omega) hs.1 hs.2) ?_
    cases decide (mt x (d + 1) s < 0)
    ·exact Ev.ret _
    ·exact Ev.ret _, fun s' he => by
     cases hb : decide (mt x (d + 1) s < 0) with
     | true => rw [hb] at he; cases he
     | false =>
      rw [hb] at he
      simp only [cond_false, LR.nx.injEq] at he
      have hneg : ¬ mt x (d + 1) s < 0 := of_decide_eq_false hb
      subst he
      unfold mt at hneg ⊢
      cases hb2 : (mf x (d + 1) s).1 with
      | false => rw [hb2] at hneg; simp at hneg
      | true => have := mf_le x (d + 1) s hb2; simp only [cond_true]; omega⟩) (s0 := c + 1) ⟨by omega, hc⟩
  rw [mts_run _ _ _ (by omega)] at hloop
  refine Ev.bind hloop ?_
  cases (mfs ks (d + 1) (c + 1)).1
  ·exact Ev.ret _
  ·exact Ev.ret _
theorem R1_Valid_ev (t : Tm) : Ev (fun n => R1_Valid n t) (validM t) := by
 unfold R1_Valid
 refine Ev.bind (nodes t 1 0 (by omega) (by omega) (by omega) (by omega)) ?_
 unfold mt validM
 cases hb : (mf t 1 0).1 with
 | false => exact Ev.ret _
 | true =>
  have := mf_le t 1 0 hb
  simp only [cond_true]
  rw [decide_eq_true (by omega)]
  exact Ev.ret _
end Abs
end Go.Proofs.YtiiaccpcoclklaaGreat
namespace Go.Proofs.YtiiaccpcoclklaaGreat
namespace Abs
open Go Go.Proofs Go.Deep Go.WideShapes
instance : Inhabited Tm := ⟨.mk 0 [] 0 (.mk 0 [] []) []⟩
theorem cl31 : Tryz.prog.cellsOf 31 = 7 := by kernel_rfl
theorem cl29 : Tryz.prog.cellsOf 29 = 1 := by kernel_rfl
theorem len_encTm (t : Tm) : (encTm t).length = 7 := by rw [encTm_eq]; rfl
section
variable {H : Type} {enc : TypeId × Value → H} {w : World} {base : Nat} {spare : Nat → Bool} {held : Bool} {κ : Kap} {pv : Prv}
set_option maxRecDepth 100000 in
theorem reads_tm (hpv : ∀ b o, ¬ pv b o) (fuel : Nat) : Reads enc Tryz.prog w base spare held κ pv 31 encTm fuel := by
 induction fuel using Nat.strongRecOn with
 | _ fuel ih =>
  intro cs x h
  obtain ⟨xs, n, rfl, _, hl, hlen, hf⟩ := DataW.trod_struct Tryz.underlying31 h
  rw [cl31] at hl
  match cs, hl with
  | [c0, c1, c2, c3, c4, c5, c6], _ =>
   obtain ⟨y0, e0⟩ := get1 (i := 0) hlen (by decide)
   obtain ⟨y1, e1⟩ := get1 (i := 1) hlen (by decide)
   obtain ⟨y2, e2⟩ := get1 (i := 2) hlen (by decide)
   obtain ⟨y3, e3⟩ := get1 (i := 3) hlen (by decide)
   obtain ⟨y4, e4⟩ := get1 (i := 4) hlen (by decide)
   have h0 := hf 0 _ rfl
   have h1 := hf 1 _ rfl
   have h2 := hf 2 _ rfl
   have h3 := hf 3 _ rfl
   have h4 := hf 4 _ rfl
   simp only [e0, cl3, List.drop_zero, List.take_succ_cons, List.take_zero] at h0
   simp only [e1, cl9, List.drop_succ_cons, List.drop_zero, List.take_succ_cons, List.take_zero] at h1
   simp only [e2, cl3, List.drop_succ_cons, List.drop_zero, List.take_succ_cons, List.take_zero] at h2
   simp only [e3, cl28, List.drop_succ_cons, List.drop_zero, List.take_succ_cons, List.take_zero] at h3
   simp only [e4, cl29, List.drop_succ_cons, List.drop_zero, List.take_succ_cons, List.take_zero] at h4
   obtain ⟨k, hk⟩ := reads_int (κ := κ) (pv := pv) Tryz.underlying3 n _ _ h0
   obtain ⟨nm, hn⟩ := reads_str (κ := κ) (pv := pv) Tryz.underlying9 n _ _ h1
   obtain ⟨m, hm⟩ := reads_int (κ := κ) (pv := pv) Tryz.underlying3 n _ _ h2
   obtain ⟨t, ht⟩ := reads_ty hpv n _ _ h3
   obtain ⟨ks, hks⟩ := reads_slice (f := encTm) Tryz.underlying29 cl31 (by decide) len_encTm hpv (fun m hm => ih m (by omega)) _ _ h4
   refine ⟨.mk k nm m t ks, ?_⟩
   have := hk.app (hn.app (hm.app (ht.app hks)))
   rw [encTy_eq] at this
   rw [encTm_eq]
   exact this
end
theorem tmsS_of : ∀ {ts : List Tm}, (∀ t ∈ ts, tmS t) → tmsS ts
 | [], _ => trivial
 | t :: ts, h => by
  simp only [tmsS]
  exact ⟨h t (List.mem_cons_self ..), tmsS_of fun u hu => h u (List.mem_cons_of_mem _ hu)⟩
theorem tms_short {w : World} {κ : Kap} {pv : Prv} {ts : List Tm} {u : Value} (ih : ∀ t ∈ ts, ∀ f : Nat → Value, (∀ j, j < 7 → Rel w κ pv ((encTm t).getD j .unk) (f j)) → tmS t) (h : Rel w κ pv (.slice (ts.map encTm) .shared) u) : ∀ t ∈ ts, tmS t := by
 intro t ht
 obtain ⟨i, hi, rfl⟩ := List.mem_iff_getElem.1 ht
 cases h with
 | slice b off sz f h1 h2 h3 h3' h4 h5 h6 _ =>
  have hi' : i < (ts.map encTm).length := by simpa using hi
  have eg : (ts.map encTm).getD i [] = encTm ts[i] := by simp [List.getD, List.getElem?_map, List.getElem?_eq_getElem hi]
  have hsz := h1 i hi'
  rw [eg, len_encTm] at hsz
  refine ih _ (List.getElem_mem hi) (f i) fun j hj => ?_
  have := h6 i j hi' (by omega)
  rw [eg] at this
  exact this
theorem tm_cells {w : World} {κ : Kap} {pv : Prv} : ∀ t : Tm, ∀ f : Nat → Value, (∀ j, j < 7 → Rel w κ pv ((encTm t).getD j .unk) (f j)) → tmS t := Tm.ind fun op nm m ty ks ih f h => by
 have h1 := h 1 (by decide)
 have h6 := h 6 (by decide)
 rw [encTm_eq] at h1 h6
 simp only [tmS]
 refine ⟨?_, tmsS_of (tms_short ih h6)⟩
 have h1' : Rel w κ pv (.str nm) (f 1) := h1
 generalize f 1 = g at h1'
 cases h1'
 assumption
theorem tm_short {t : Tm} {w : World} {κ : Kap} {pv : Prv} {v : Value} (h : Rel w κ pv (.agg (encTm t)) v) : tmS t := by
 cases h with
 | @agg _ vs hl hj => exact tm_cells t (fun j => vs.getD j undef) fun j h => hj j (by rw [len_encTm]; exact h)
end Abs
end Go.Proofs.YtiiaccpcoclklaaGreat
namespace Go.Proofs.YtiiaccpcoclklaaGreat
namespace Abs
open Go
def tyBool : Ty := .mk 2 [] []
def tyInt : Ty := .mk 1 [] []
def tyPair (a b : Ty) : Ty := .mk 4 [] [a, b]
inductive Good : Ty → Prop where
 | int : Good tyInt
 | car (nm : Str) : Good (tyC nm)
 | pair {a b : Ty} : Good a → Good b → Good (tyPair a b)
 | set {a : Ty} : Good a → Good (tySet a)
def Top (t : Ty) : Prop := t = tyBool ∨ Good t
mutual
theorem pf_good : ∀ (t : Ty) (d c : Int), 1 < d → (pf t d c).1 = true → Good t
 | .mk k nm ks, d, c, hd, h => by
  simp only [pf] at h
  cases hb : ((decide (c + 1 ≤ 16) && decide (d ≤ 6)) && headT k nm ks.length d) with
  | false => rw [hb] at h; cases h
  | true =>
   rw [hb] at h
   simp only [cond_true] at h
   have hk := pfs_good ks (d + 1) (c + 1) (by omega) h
   simp only [Bool.and_eq_true, headT, decide_eq_true_eq, Bool.or_eq_true, beq_iff_eq, Bool.not_eq_true', Bool.and_eq_false_iff, beq_eq_false_iff_ne, decide_eq_false_iff_not] at hb
   obtain ⟨_, h2, h3, h4⟩ := hb
   have hk2 : k ≠ 2 := by rcases h2 with h2 | h2 <;> omega
   rcases h3 with ⟨h5, h6⟩ | ⟨h5, h6⟩ | ⟨h5, h6⟩
   ·have hks : ks = [] := List.length_eq_zero_iff.1 h6
    subst hks
    rcases h5 with rfl | rfl | rfl
    ·have : nm = [] := by simpa using h4
     subst this; exact .int
    ·exact absurd rfl hk2
    ·exact .car nm
   ·subst h5
    have : nm = [] := by simpa using h4
    subst this
    match ks, h6, hk with
    | [a, b], _, hk => exact .pair (hk a (by simp)) (hk b (by simp))
   ·subst h5
    have : nm = [] := by simpa using h4
    subst this
    match ks, h6, hk with
    | [a], _, hk => exact .set (hk a (by simp))
theorem pfs_good : ∀ (ts : List Ty) (d c : Int), 1 < d → (pfs ts d c).1 = true → ∀ t ∈ ts, Good t
 | [], _, _, _, _, t, ht => by cases ht
 | u :: ts, d, c, hd, h, t, ht => by
  simp only [pfs] at h
  cases hb : (pf u d c).1 with
  | false => rw [hb] at h; cases h
  | true =>
   rw [hb] at h
   rcases List.mem_cons.1 ht with he | ht
   ·rw [he]; exact pf_good u d c hd hb
   ·exact pfs_good ts d _ hd h t ht
end
theorem valid_top {t : Ty} (h : validT t = true) : Top t := by
 obtain ⟨k, nm, ks⟩ := t
 unfold validT at h
 simp only [pf] at h
 cases hb : ((decide ((0 : Int) + 1 ≤ 16) && decide ((1 : Int) ≤ 6)) && headT k nm ks.length 1) with
 | false => rw [hb] at h; cases h
 | true =>
  rw [hb] at h
  simp only [cond_true] at h
  have hk := pfs_good ks (1 + 1) (0 + 1) (by omega) h
  simp only [Bool.and_eq_true, headT, decide_eq_true_eq, Bool.or_eq_true, beq_iff_eq, Bool.not_eq_true', Bool.and_eq_false_iff, beq_eq_false_iff_ne, decide_eq_false_iff_not] at hb
  obtain ⟨_, _, h3, h4⟩ := hb
  rcases h3 with ⟨h5, h6⟩ | ⟨h5, h6⟩ | ⟨h5, h6⟩
  ·have hks : ks = [] := List.length_eq_zero_iff.1 h6
   subst hks
   rcases h5 with rfl | rfl | rfl
   ·have : nm = [] := by simpa using h4
    subst this; exact .inr .int
   ·have : nm = [] := by simpa using h4
    subst this; exact .inl rfl
   ·exact .inr (.car nm)
  ·subst h5
   have : nm = [] := by simpa using h4
   subst this
   match ks, h6, hk with
   | [a, b], _, hk => exact .inr (.pair (hk a (by simp)) (hk b (by simp)))
  ·subst h5
   have : nm = [] := by simpa using h4
   subst this
   match ks, h6, hk with
   | [a], _, hk => exact .inr (.set (hk a (by simp)))
theorem good_ok {t : Ty} (h : Good t) : okT t = true := by
 induction h with
 | int => rfl
 | car nm => rfl
 | pair _ _ h1 h2 => simp [tyPair, okT, okTs, h1, h2]
 | set _ h1 => simp [tySet, okT, okTs, h1]
theorem top_ok {t : Ty} (h : Top t) : okT t = true := by
 rcases h with rfl | h
 ·rfl
 ·exact good_ok h
theorem good_kind {t : Ty} (h : Good t) : (t.kind == 2) = false := by cases h <;> rfl
def setO (t : Ty) : Option Ty := cond (t.kind == 5) t.kids.head? none
def relO (t : Ty) : Option (Ty × Ty) := (setO t).bind fun p => cond (p.kind == 4) (p.kids.head?.bind fun a => (p.kids.drop 1).head?.map fun b => (a, b)) none
theorem setO_set (a : Ty) : setO (tySet a) = some a := rfl
theorem relO_rel (a b : Ty) : relO (tySet (tyPair a b)) = some (a, b) := rfl
theorem set_cases {t : Ty} (h : Top t) : (∃ e, t = tySet e ∧ Good e) ∨ ((t.kind == 5) = false ∧ setO t = none ∧ relO t = none) := by
 rcases h with rfl | h
 ·exact .inr ⟨rfl, rfl, rfl⟩
 ·cases h with
  | int => exact .inr ⟨rfl, rfl, rfl⟩
  | car nm => exact .inr ⟨rfl, rfl, rfl⟩
  | pair _ _ => exact .inr ⟨rfl, rfl, rfl⟩
  | set h => exact .inl ⟨_, rfl, h⟩
theorem rel_cases {t : Ty} (h : Top t) : (∃ a b, t = tySet (tyPair a b) ∧ Good a ∧ Good b) ∨ relO t = none := by
 rcases set_cases h with ⟨e, rfl, he⟩ | ⟨_, _, h⟩
 ·cases he with
  | int => exact .inr rfl
  | car nm => exact .inr rfl
  | pair h1 h2 => exact .inl ⟨_, _, rfl, h1, h2⟩
  | set h => exact .inr rfl
 ·exact .inr h
theorem setO_good {t e : Ty} (h : Top t) (he : setO t = some e) : Good e ∧ t = tySet e := by
 rcases set_cases h with ⟨e', rfl, hg⟩ | ⟨_, h, _⟩
 ·rw [setO_set] at he; cases he; exact ⟨hg, rfl⟩
 ·rw [h] at he; cases he
theorem relO_good {t a b : Ty} (h : Top t) (he : relO t = some (a, b)) : Good a ∧ Good b ∧ t = tySet (tyPair a b) := by
 rcases rel_cases h with ⟨a', b', rfl, hg⟩ | h
 ·rw [relO_rel] at he; cases he; exact ⟨hg.1, hg.2, rfl⟩
 ·rw [h] at he; cases he
def elP (o : Option Ty) : Ty × Bool := match o with | some e => (e, true) | none => (tyZero, false)
def siP (o : Option (Ty × Ty)) : Ty × Ty × Bool := match o with | some e => (e.1, e.2, true) | none => (tyZero, tyZero, false)
theorem elementOf_eq (n : Nat) {t : Ty} (h : Top t) : typing_elementOf n t = some (elP (setO t)) := by
 rcases set_cases h with ⟨e, rfl, _⟩ | ⟨h1, h2, _⟩
 ·rfl
 ·unfold typing_elementOf
  rw [h2, bne, h1]
  rfl
theorem sides_eq (n : Nat) {t : Ty} (h : Top t) : typing_sides n t = some (siP (relO t)) := by
 unfold typing_sides
 rw [elementOf_eq n h]
 rcases set_cases h with ⟨e, rfl, he⟩ | ⟨_, h2, h3⟩
 ·cases he <;> rfl
 ·rw [h2, h3]; rfl
theorem isSet_eq (n : Nat) {t : Ty} (h : Top t) : R2_isSet n t = some (setO t).isSome := by
 rcases set_cases h with ⟨e, rfl, he⟩ | ⟨h1, h2, _⟩
 ·cases he <;> rfl
 ·unfold R2_isSet
  rw [h2, h1]
  rfl
theorem isRel_eq (n : Nat) {t : Ty} (h : Top t) : R2_isRel n t = some (relO t).isSome := by
 rcases set_cases h with ⟨e, rfl, he⟩ | ⟨h1, h2, h3⟩
 ·cases he <;> rfl
 ·unfold R2_isRel
  rw [h3, h1]
  rfl
def onlyIf (b : Bool) (t : Ty) : Option Ty := cond b (some t) none
def allK (q : Int) (l : List Ty) : Bool := l.all fun x => x.kind == q
def rowO (op : Int) (l : List Ty) : Option Ty :=
 let a := l.headD tyZero
 let b := (l.drop 1).headD tyZero
 cond (decide (op ≤ 2)) (some tyBool) <|
 cond (decide (op ≤ 7)) (onlyIf (allK 2 l) tyBool) <|
 cond (decide (op ≤ 9)) (onlyIf ((setO a).isSome && b.kind == 2) tyBool) <|
 cond (decide (op ≤ 11)) (onlyIf (a.kind != 2 && tyEq a b) tyBool) <|
 cond (decide (op ≤ 15)) (onlyIf (allK 1 l) tyBool) <|
 cond (decide (op ≤ 17)) ((setO b).bind fun e => onlyIf (tyEq a e) tyBool) <|
 cond (decide (op ≤ 18)) (onlyIf ((setO a).isSome && tyEq a b) tyBool) <|
 cond (decide (op ≤ 19)) (some tyInt) <|
 cond (decide (op ≤ 26)) (onlyIf (allK 1 l) tyInt) <|
 cond (decide (op ≤ 27)) (onlyIf (a.kind != 2 && b.kind != 2) (tyPair a b)) <|
 cond (decide (op ≤ 28)) (onlyIf (a.kind != 2 && l.all fun x => tyEq x a) (tySet a)) <|
 cond (decide (op ≤ 30)) (onlyIf (allK 1 l) (tySet tyInt)) <|
 cond (decide (op ≤ 33)) (onlyIf ((setO a).isSome && tyEq a b) a) <|
 cond (decide (op ≤ 34)) ((setO a).bind fun x => (setO b).map fun y => tySet (tyPair x y)) <|
 cond (decide (op ≤ 35)) (onlyIf ((relO a).isSome && tyEq a b) a) <|
 cond (decide (op ≤ 36)) ((relO a).bind fun x => (relO b).bind fun y => onlyIf (tyEq x.2 y.1) (tySet (tyPair x.1 y.2))) <|
 cond (decide (op ≤ 38)) ((setO a).bind fun x => (relO b).bind fun y => onlyIf (tyEq x y.1) b) <|
 cond (decide (op ≤ 40)) ((relO a).bind fun x => (setO b).bind fun y => onlyIf (tyEq y x.2) a) <|
 cond (decide (op ≤ 45)) ((setO a).bind fun x => (setO b).map fun y => tySet (tySet (tyPair x y))) <|
 cond (decide (op ≤ 46)) ((setO a).map fun x => tySet (tySet x)) <|
 cond (decide (op ≤ 47)) ((setO a).map fun _ => tyInt) <|
 cond (decide (op ≤ 49)) ((setO a).bind fun x => onlyIf (x.kind == 1) tyInt) <|
 cond (decide (op ≤ 50)) ((relO a).map fun x => tySet x.1) <|
 cond (decide (op ≤ 51)) ((relO a).map fun x => tySet x.2) <|
 cond (decide (op ≤ 52)) ((relO a).map fun x => tySet (tyPair x.2 x.1)) <|
 cond (decide (op ≤ 53)) ((relO a).bind fun x => (setO b).bind fun y => onlyIf (tyEq y x.1) (tySet x.2)) <|
 cond (decide (op ≤ 54)) ((relO a).bind fun x => onlyIf (tyEq b x.1) x.2) <|
 cond (decide (op ≤ 55)) (onlyIf ((setO a).isSome && b.kind == 2) a) <|
 (setO a).bind fun x => onlyIf (b.kind != 2) (tySet (tyPair x b))
def RowIs (r : Ty × Bool) (o : Option Ty) : Prop := match o with | some t => r = (t, true) | none => r.2 = false
def Row (f : Nat → Option (Ty × Bool)) (o : Option Ty) : Prop := ∃ r, Ev f r ∧ RowIs r o
theorem Row.of {f : Nat → Option (Ty × Bool)} {o : Option Ty} (t : Ty) (b : Bool) (h : Ev f (t, b)) (he : o = onlyIf b t) : Row f o := by
 subst he
 cases b
 ·exact ⟨_, h, rfl⟩
 ·exact ⟨_, h, rfl⟩
theorem Row.no {f : Nat → Option (Ty × Bool)} {o : Option Ty} (t : Ty) (h : Ev f (t, false)) (he : o = none) : Row f o := .of t false h he
theorem Row.yes {f : Nat → Option (Ty × Bool)} {o : Option Ty} (t : Ty) (h : Ev f (t, true)) (he : o = some t) : Row f o := .of t true h he
end Abs
end Go.Proofs.YtiiaccpcoclklaaGreat

/-
  Types: what they contain, their carriers, copies, sameness; maps. Conditions: none; lemmas without a program. Environments: ValidEnv, Lookup and With of the program and of the document come to the same plain answers; the law TypingEnvs. Conditions: none; lemmas without a program. Environments: Lookup and With of the program and of the document come to the same plain answers; the law TypingEnvs. Conditions: none; lemmas without a program.
-/
import Derived.Test.YtiiaccpcoclklaaGreatBTypingUnionsProof13
set_option linter.unusedSimpArgs false
set_option linter.unusedVariables false
namespace Go.Proofs.YtiiaccpcoclklaaGreat
namespace Abs
open Go

/-! ### Loops -/

theorem runL_fold {α σ τ ρ : Type} (f : α → σ → σ) (fin : σ → τ) : ∀ (l : List α) (s : σ), runL (ρ := ρ) (fun x s => .nx (f x s)) fin l s = .nx (fin (l.foldl (fun s x => f x s) s))
  | [], _ => rfl
  | x :: xs, s => runL_fold f fin xs (f x s)
theorem loopFold {α σ τ ρ : Type} (l : List α) (L : Nat → Nat → Int → σ → Option (LR τ ρ)) (step : Nat → α → σ → Option σ) (f : α → σ → σ) (fin : σ → τ) (I : List α → σ → Prop)
    (hL : ∀ n k i s, L n (k + 1) i s = cond (decide (i < (l.length : Int))) ((idx l i).bind fun x => (step n x s).bind fun s' => L n k (i + 1) s') (some (.nx (fin s))))
    (hI : ∀ x suf s, x ∈ l → I (x :: suf) s → Ev (fun n => step n x s) (f x s) ∧ I suf (f x s)) {s0 : σ} (h0 : I l s0) : Ev (fun n => L n n 0 s0) (.nx (fin (l.foldl (fun s x => f x s) s0))) := by
  rw [← runL_fold f fin]
  refine loopEv l L (fun n x s => (step n x s).bind fun s' => some (.nx s')) (fun x s => .nx (f x s)) fin I (fun n k i s => ?_) (fun x suf s hx hs => ?_) h0
  · rw [hL]
    congr 1
    congr 1
    funext x
    cases step n x s <;> rfl
  · obtain ⟨h1, h2⟩ := hI x suf s hx hs
    exact ⟨Ev.bind h1 (Ev.ret _), fun s' h => by cases h; exact h2⟩
theorem loopStopR {α ρ : Type} (l : List α) (L : Nat → Nat → Int → Option (LR Unit ρ)) (step : Nat → α → Option (LR Unit ρ)) (p : α → Bool) (r : ρ)
    (hL : ∀ n k i, L n (k + 1) i = cond (decide (i < (l.length : Int))) ((idx l i).bind fun x => (step n x).bind (LR.el (fun _ => L n k (i + 1)) (fun r => some (.rt r)))) (some (.nx ())))
    (hp : ∀ x ∈ l, Ev (fun n => step n x) (cond (p x) (.rt r) (.nx ()))) : Ev (fun n => L n n 0) (cond (l.any p) (.rt r) (.nx ())) := by
  have := loopEv l (fun n k i (_ : Unit) => L n k i) (fun n x _ => step n x) (fun x _ => cond (p x) (.rt r) (.nx ())) (fun _ => ()) (fun _ _ => True)
    (fun n k i s => by rw [hL]) (fun x suf s hx _ => ⟨hp x hx, fun _ _ => trivial⟩) (s0 := ()) trivial
  rw [runL_stop] at this
  exact this

theorem app_eq {α : Type} {b : Nat} {l ys : List α} (h : l.length + ys.length ≤ 1000000) (hb : b ≤ 1000) : app b l ys = some (l ++ ys) := by
  unfold app
  have := Nat.mul_le_mul h hb
  rw [if_pos ⟨by omega, by omega⟩]
theorem foldl_snoc {α : Type} : ∀ (l s : List α), l.foldl (fun s x => s ++ [x]) s = s ++ l
  | [], s => by simp
  | x :: l, s => by simp [foldl_snoc l]

/-! ### Maps -/

theorem mfind_nil {α : Type} (k : Str) : mfind ([] : List (Str × α)) k = none := rfl
theorem mfind_cons {α : Type} (p : Str × α) (m : List (Str × α)) (k : Str) : mfind (p :: m) k = if p.1 == k then some p.2 else mfind m k := by
  unfold mfind
  simp only [List.find?_cons]
  cases p.1 == k <;> rfl
theorem mfind_put {α : Type} (m : List (Str × α)) (k : Str) (v : α) (k' : Str) : mfind (mputL m k v) k' = if k == k' then some v else mfind m k' := by
  induction m with
  | nil => rw [mputL, mfind_cons]
  | cons p m ih =>
    simp only [mputL]
    by_cases h : (p.1 == k) = true
    · have e : p.1 = k := by simpa using h
      rw [if_pos h, mfind_cons, mfind_cons, e]
      by_cases hk : (k == k') = true
      · rw [if_pos hk, if_pos hk]
      · rw [if_neg hk, if_neg hk, if_neg hk]
    · rw [if_neg h, mfind_cons, ih, mfind_cons]
      by_cases hp : (p.1 == k') = true
      · rw [if_pos hp, if_pos hp, if_neg]
        intro h2
        apply h
        have e1 : p.1 = k' := by simpa using hp
        have e2 : k = k' := by simpa using h2
        simp [e1, e2]
      · rw [if_neg hp, if_neg hp]
theorem mput_len {α : Type} (m : List (Str × α)) (k : Str) (v : α) : (mputL m k v).length ≤ m.length + 1 := by
  induction m with
  | nil => simp [mputL]
  | cons p m ih =>
    simp only [mputL]
    split
    · simp
    · simp only [List.length_cons]; omega
theorem mput_eq {α : Type} {m : List (Str × α)} (h : m.length ≤ 1000000) (k : Str) (v : α) : mput m k v = some (mputL m k v) := by
  unfold mput
  rw [if_pos (by omega)]
theorem mem_keys {α : Type} (m : List (Str × α)) (k : Str) : k ∈ m.map (·.1) ↔ ∃ v, mfind m k = some v := by
  induction m with
  | nil => simp [mfind_nil]
  | cons p m ih =>
    rw [mfind_cons]
    simp only [List.map_cons, List.mem_cons, ih]
    by_cases h : (p.1 == k) = true
    · rw [if_pos h]
      have e : p.1 = k := by simpa using h
      exact ⟨fun _ => ⟨_, rfl⟩, fun _ => .inl e.symm⟩
    · rw [if_neg h]
      have e : k ≠ p.1 := fun e => h (by simp [e])
      simp [e]
def putAll {α : Type} (l : List (Str × α)) (m : List (Str × α)) : List (Str × α) := l.foldl (fun m p => mputL m p.1 p.2) m
theorem putAll_len {α : Type} (l m : List (Str × α)) : (putAll l m).length ≤ m.length + l.length := by
  induction l generalizing m with
  | nil => simp [putAll]
  | cons p l ih =>
    have h1 := ih (mputL m p.1 p.2)
    have h2 := mput_len m p.1 p.2
    simp only [putAll, List.foldl_cons, List.length_cons] at h1 ⊢
    omega
theorem putAll_app {α : Type} (l l' m : List (Str × α)) : putAll (l ++ l') m = putAll l' (putAll l m) := by simp [putAll]
theorem mem_putAll {α : Type} (l m : List (Str × α)) (k : Str) : k ∈ (putAll l m).map (·.1) ↔ k ∈ m.map (·.1) ∨ k ∈ l.map (·.1) := by
  induction l generalizing m with
  | nil => simp [putAll]
  | cons p l ih =>
    have h1 := ih (mputL m p.1 p.2)
    have h2 : k ∈ (mputL m p.1 p.2).map (·.1) ↔ k ∈ m.map (·.1) ∨ k = p.1 := by
      rw [mem_keys, mem_keys, mfind_put]
      by_cases h : (p.1 == k) = true
      · rw [if_pos h]
        have e : p.1 = k := by simpa using h
        exact ⟨fun _ => .inr e.symm, fun _ => ⟨_, rfl⟩⟩
      · rw [if_neg h]
        have e : k ≠ p.1 := fun e => h (by simp [e])
        simp [e]
    rw [h2] at h1
    simp only [putAll, List.foldl_cons, List.map_cons, List.mem_cons] at h1 ⊢
    rw [h1, or_assoc]
theorem mfind_putAll {α : Type} (l m : List (Str × α)) (k : Str) (hn : (l.map (·.1)).Nodup) : mfind (putAll l m) k = (match mfind l k with | some v => some v | none => mfind m k) := by
  induction l generalizing m with
  | nil => rfl
  | cons p l ih =>
    rw [List.map_cons, List.nodup_cons] at hn
    have h1 := ih (mputL m p.1 p.2) hn.2
    simp only [putAll, List.foldl_cons] at h1 ⊢
    rw [h1, mfind_put, mfind_cons]
    by_cases h : (p.1 == k) = true
    · rw [if_pos h, if_pos h]
      have e : p.1 = k := by simpa using h
      have h3 : mfind l k = none := by
        cases hm : mfind l k with
        | none => rfl
        | some v => exact absurd ((mem_keys l k).2 ⟨v, hm⟩) (e ▸ hn.1)
      rw [h3]
    · rw [if_neg h, if_neg h]
theorem mfind_mem {α : Type} (l : List (Str × α)) (k : Str) (v : α) (hn : (l.map (·.1)).Nodup) : mfind l k = some v ↔ (k, v) ∈ l := by
  induction l with
  | nil => simp [mfind_nil]
  | cons p l ih =>
    rw [List.map_cons, List.nodup_cons] at hn
    rw [mfind_cons, List.mem_cons]
    by_cases h : (p.1 == k) = true
    · rw [if_pos h]
      have e : p.1 = k := by simpa using h
      constructor
      · intro h2
        cases h2
        exact .inl (by rw [← e])
      · rintro (h2 | h2)
        · rw [← h2]
        · exact absurd (List.mem_map.2 ⟨_, h2, rfl⟩) (e ▸ hn.1)
    · rw [if_neg h, ih hn.2]
      constructor
      · exact .inr
      · rintro (h2 | h2)
        · exact absurd (by rw [← h2]; simp) h
        · exact h2
theorem mfind_perm {α : Type} {l l' : List (Str × α)} (hp : l.Perm l') (hn : (l.map (·.1)).Nodup) (k : Str) : mfind l k = mfind l' k := by
  have hn' : (l'.map (·.1)).Nodup := (hp.map _).nodup_iff.1 hn
  cases h : mfind l k with
  | some v =>
    rw [mfind_mem _ _ _ hn] at h
    exact ((mfind_mem _ _ _ hn').2 (hp.mem_iff.1 h)).symm
  | none =>
    cases h' : mfind l' k with
    | none => rfl
    | some v =>
      rw [mfind_mem _ _ _ hn'] at h'
      rw [(mfind_mem _ _ _ hn).2 (hp.mem_iff.2 h')] at h
      cases h

/-! ### What a type contains -/

mutual
def hasK (q : Int) : Ty → Bool
  | .mk k _ ks => k == q || hasKs q ks
def hasKs (q : Int) : List Ty → Bool
  | [] => false
  | t :: ts => hasK q t || hasKs q ts
end
theorem hasKs_any (q : Int) : ∀ ts, hasKs q ts = ts.any (hasK q)
  | [] => rfl
  | t :: ts => by simp [hasKs, hasKs_any q ts]

theorem contains_ev (q : Int) : ∀ t : Ty, Ev (fun n => typing_contains n t q) (hasK q t) := Ty.ind fun k nm ks ih => by
  refine Ev.succ ?_
  show Ev (fun n => typing_contains_body n _ _ _ _ (.mk k nm ks) q) _
  unfold typing_contains_body
  simp only [Ty.kind, Ty.kids, hasK, hasKs_any]
  have hk : Ev (fun n => slices_ContainsFunc_Type_1 n ks q) (ks.any (hasK q)) := by
    refine Ev.succ ?_
    show Ev (fun n => slices_ContainsFunc_Type_1_body n _ _ _ _ ks q) _
    unfold slices_ContainsFunc_Type_1_body
    refine Ev.bind (a := findI (hasK q) 0 ks) (Ev.succ ?_) ?_
    · show Ev (fun n => slices_IndexFunc_Type_1_body n _ _ _ _ ks q) _
      unfold slices_IndexFunc_Type_1_body
      refine loopFind ks (fun n k i => slices_IndexFunc_Type_1_L0 n _ _ _ (fun p0 p1 => typing_contains_1 n p0 p1) ks q k i) (fun n x => typing_contains_1 n x q) (hasK q) (fun n k i => rfl) (fun x hx => ?_)
      refine Ev.succ ?_
      show Ev (fun n => typing_contains_1_body n _ _ _ _ x q) _
      unfold typing_contains_1_body
      exact Ev.bind (ih x hx) (Ev.ret _)
    · rw [findI_ge _ _ _ (Int.le_refl _)]; exact Ev.ret _
  cases hq : (k == q)
  · exact Ev.bind (Ev.bind hk (Ev.ret _)) (Ev.ret _)
  · exact Ev.bind (Ev.ret _) (Ev.ret _)

theorem holdsBool_ev : ∀ t : Ty, Ev (fun n => R2_holdsBool n t) (hasK 2 t) := Ty.ind fun k nm ks ih => by
  refine Ev.succ ?_
  show Ev (fun n => R2_holdsBool_body n _ (.mk k nm ks)) _
  unfold R2_holdsBool_body
  simp only [Ty.kind, hasK, hasKs_any]
  cases hq : (k == 2)
  · have h := loopStop ks (fun n k' i => R2_holdsBool_L0 n (fun p0 => R2_holdsBool n p0) (.mk k nm ks) k' i) (fun n x => R2_holdsBool n x) (hasK 2) true (fun n k i => rfl) ih
    simp only [cond_false, Bool.false_or]
    refine Ev.bind h ?_
    cases ks.any (hasK 2)
    · exact Ev.ret _
    · exact Ev.ret _
  · exact Ev.ret _

/-! ### Carriers of a type; types with few kids -/

mutual
def carsT : Ty → List Str
  | .mk k nm ks => cond (k == 3) [nm] (carsTs ks)
def carsTs : List Ty → List Str
  | [] => []
  | t :: ts => carsT t ++ carsTs ts
end
mutual
def okT : Ty → Bool
  | .mk k _ ks => (decide (ks.length ≤ 2) && (k != 3 || ks.length == 0)) && okTs ks
def okTs : List Ty → Bool
  | [] => true
  | t :: ts => okT t && okTs ts
end
theorem okTs_mem : ∀ {ts : List Ty}, okTs ts = true → ∀ t ∈ ts, okT t = true
  | [], _, t, h => by cases h
  | u :: ts, h, t, ht => by
    simp only [okTs, Bool.and_eq_true] at h
    rcases List.mem_cons.1 ht with rfl | ht
    · exact h.1
    · exact okTs_mem h.2 t ht
theorem carsTs_mem : ∀ {ts : List Ty} {t : Ty}, t ∈ ts → (carsT t).length ≤ (carsTs ts).length
  | [], t, h => by cases h
  | u :: ts, t, ht => by
    simp only [carsTs, List.length_append]
    rcases List.mem_cons.1 ht with rfl | ht
    · omega
    · have := carsTs_mem ht; omega
theorem head_ok {k : Int} {nm : Str} {len : Nat} {d : Int} (h : headT k nm len d = true) : len ≤ 2 ∧ (k = 3 → len = 0) := by
  unfold headT at h
  simp only [Bool.and_eq_true, Bool.or_eq_true, beq_iff_eq] at h
  obtain ⟨_, h, _⟩ := h
  rcases h with ⟨h1, h2⟩ | ⟨h1, h2⟩ | ⟨h1, h2⟩ <;> omega
mutual
theorem pf_ok : ∀ (t : Ty) (d c : Int), (pf t d c).1 = true → okT t = true ∧ ((carsT t).length : Int) ≤ (pf t d c).2 - c
  | .mk k nm ks, d, c, h => by
    simp only [pf] at h ⊢
    cases hb : ((decide (c + 1 ≤ 16) && decide (d ≤ 6)) && headT k nm ks.length d) with
    | false => rw [hb] at h; cases h
    | true =>
      rw [hb] at h
      simp only [cond_true] at h ⊢
      simp only [Bool.and_eq_true] at hb
      have hh := head_ok hb.2
      have h1 := pfs_ok ks (d + 1) (c + 1) h
      have h2 := pfs_le ks (d + 1) (c + 1) h
      constructor
      · simp only [okT, h1.1, Bool.and_true, Bool.and_eq_true, decide_eq_true_eq, Bool.or_eq_true, bne_iff_ne, beq_iff_eq]
        refine ⟨hh.1, ?_⟩
        by_cases e : k = 3
        · exact .inr (hh.2 e)
        · exact .inl e
      · simp only [carsT]
        cases k == 3 with
        | true => simp only [cond_true, List.length_singleton]; omega
        | false => simp only [cond_false]; omega
theorem pfs_ok : ∀ (ts : List Ty) (d c : Int), (pfs ts d c).1 = true → okTs ts = true ∧ ((carsTs ts).length : Int) ≤ (pfs ts d c).2 - c
  | [], _, c, _ => by simp [pfs, okTs, carsTs]
  | t :: ts, d, c, h => by
    simp only [pfs] at h ⊢
    cases hb : (pf t d c).1 with
    | false => rw [hb] at h; cases h
    | true =>
      rw [hb] at h
      simp only [cond_true] at h ⊢
      have h1 := pf_ok t d c hb
      have h2 := pfs_ok ts d _ h
      simp only [okTs, h1.1, h2.1, Bool.and_true, carsTs, List.length_append]
      refine ⟨trivial, ?_⟩
      omega
end
theorem valid_ok {t : Ty} (h : validT t = true) : okT t = true ∧ (carsT t).length ≤ 16 := by
  have h1 := pf_ok t 1 0 h
  have h2 := pf_le t 1 0 h
  exact ⟨h1.1, by omega⟩

theorem R2_carriers_ev : ∀ t : Ty, okT t = true → (carsT t).length ≤ 16 → Ev (fun n => R2_carriers n t) (carsT t) := Ty.ind fun k nm ks ih hok hlen => by
  refine Ev.succ ?_
  show Ev (fun n => R2_carriers_body n _ (.mk k nm ks)) _
  unfold R2_carriers_body
  simp only [Ty.kind, Ty.name, carsT] at hlen ⊢
  simp only [okT, Bool.and_eq_true, decide_eq_true_eq] at hok
  cases hq : (k == 3) with
  | true => exact Ev.ret _
  | false =>
    rw [hq] at hlen
    simp only [cond_false] at hlen ⊢
    have h := loopFold ks (fun n k' i s => R2_carriers_L0 n (fun p0 => R2_carriers n p0) (.mk k nm ks) k' (s, i)) (fun n x s => (R2_carriers n x).bind fun x2 => app 16 s x2) (fun x s => s ++ carsT x) (fun s => s) (fun suf s => s.length + (carsTs suf).length ≤ 16)
      (fun n k' i s => by
        show cond _ _ _ = _
        congr 1
        show (idx ks i).bind _ = _
        congr 1
        funext x
        simp only [Option.bind_assoc])
      (fun x suf s hx hs => by
        simp only [carsTs, List.length_append] at hs
        refine ⟨Ev.bind (ih x hx (okTs_mem hok.2 x hx) (by have := carsTs_mem hx; omega)) ?_, ?_⟩
        · rw [app_eq (by omega) (by omega)]; exact Ev.ret _
        · simp only [List.length_append]; omega) (s0 := ([] : List Str)) (by simpa using hlen)
    have hf : ∀ (ts : List Ty) (s : List Str), ts.foldl (fun s x => s ++ carsT x) s = s ++ carsTs ts := by
      intro ts
      induction ts with
      | nil => intro s; simp [carsTs]
      | cons t ts iht => intro s; simp [carsTs, iht]
    rw [hf] at h
    exact Ev.bind h (Ev.ret _)

theorem collect_ev : ∀ t : Ty, okT t = true → ∀ m : List (Str × Bool), m.length + (carsT t).length ≤ 1000 → Ev (fun n => typing_collect n t m) (putAll ((carsT t).map fun s => (s, true)) m) := Ty.ind fun k nm ks ih hok m hlen => by
  refine Ev.succ ?_
  show Ev (fun n => typing_collect_body n _ (.mk k nm ks) m) _
  unfold typing_collect_body
  simp only [Ty.kind, Ty.name, carsT] at hlen ⊢
  simp only [okT, Bool.and_eq_true, decide_eq_true_eq, Bool.or_eq_true, beq_iff_eq, bne_iff_ne] at hok
  have hloop : ∀ (m : List (Str × Bool)), m.length + (carsTs ks).length ≤ 1000 → Ev (fun n => typing_collect_L0 n (fun p0 p1 => typing_collect n p0 p1) (.mk k nm ks) n (0, m)) (.nx (putAll ((carsTs ks).map fun s => (s, true)) m)) := fun m hm => by
    have h := loopFold ks (fun n k' i s => typing_collect_L0 n (fun p0 p1 => typing_collect n p0 p1) (.mk k nm ks) k' (i, s)) (fun n x s => typing_collect n x s) (fun x s => putAll ((carsT x).map fun s => (s, true)) s) (fun s => s) (fun suf s => s.length + (carsTs suf).length ≤ 1000)
      (fun n k' i s => rfl)
      (fun x suf s hx hs => by
        simp only [carsTs, List.length_append] at hs
        refine ⟨ih x hx (okTs_mem hok.2 x hx) s (by omega), ?_⟩
        have := putAll_len ((carsT x).map fun s => (s, true)) s
        simp only [List.length_map] at this
        omega) (s0 := m) hm
    have hf : ∀ (ts : List Ty) (s : List (Str × Bool)), ts.foldl (fun s x => putAll ((carsT x).map fun s => (s, true)) s) s = putAll ((carsTs ts).map fun s => (s, true)) s := by
      intro ts
      induction ts with
      | nil => intro s; rfl
      | cons t ts iht => intro s; simp only [List.foldl_cons, carsTs, List.map_append, putAll_app, iht]
    rw [hf] at h
    exact h
  cases hq : (k == 3) with
  | true =>
    have hk : k = 3 := by simpa using hq
    have hks : ks = [] := by
      rcases hok.1.2 with h | h
      · exact absurd hk h
      · exact List.length_eq_zero_iff.1 h
    rw [hq] at hlen
    simp only [cond_true, List.length_singleton] at hlen ⊢
    rw [mput_eq (by omega)]
    have hl := mput_len m nm true
    have := hloop (mputL m nm true) (by rw [hks]; simp only [carsTs, List.length_nil]; omega)
    rw [hks] at this ⊢
    simp only [Option.bind_some]
    exact Ev.bind this (Ev.ret _)
  | false =>
    rw [hq] at hlen
    simp only [cond_false, Option.bind_some] at hlen ⊢
    exact Ev.bind (hloop m hlen) (Ev.ret _)

theorem typing_Carriers_ev {t : Ty} (h : validT t = true) : Ev (fun n => typing_Carriers n t) (((putAll ((carsT t).map fun s => (s, true)) []).map (·.1)).mergeSort leS) := by
  unfold typing_Carriers
  refine Ev.bind (term_ValidType_ev t) ?_
  rw [h]
  obtain ⟨h1, h2⟩ := valid_ok h
  refine Ev.bind (collect_ev t h1 [] (by simp; omega)) ?_
  have := putAll_len ((carsT t).map fun s => (s, true)) []
  simp only [List.length_map, List.length_nil] at this
  unfold slices_Sorted_string
  rw [if_pos (by omega)]
  exact Ev.ret _
theorem Carriers_mem (t : Ty) (s : Str) : s ∈ ((putAll ((carsT t).map fun s => (s, true)) []).map (·.1)).mergeSort leS ↔ s ∈ carsT t := by
  rw [List.mem_mergeSort, mem_putAll]
  simp

/-! ### Copies and sameness -/

theorem copyType_ev : ∀ t : Ty, okT t = true → Ev (fun n => typing_copyType n t) t := Ty.ind fun k nm ks ih hok => by
  refine Ev.succ ?_
  show Ev (fun n => typing_copyType_body n _ (.mk k nm ks)) _
  unfold typing_copyType_body
  simp only [Ty.kind, Ty.name]
  simp only [okT, Bool.and_eq_true, decide_eq_true_eq] at hok
  have h := loopFold ks (fun n k' i s => typing_copyType_L0 n (fun p0 => typing_copyType n p0) (.mk k nm ks) k' (i, s)) (fun n x s => (typing_copyType n x).bind fun x2 => app 48 s [x2]) (fun x s => s ++ [x]) (fun s => s) (fun suf s => s.length + suf.length ≤ 2)
    (fun n k' i s => by
      show cond _ _ _ = _
      congr 1
      show (idx ks i).bind _ = _
      congr 1
      funext x
      simp only [Option.bind_assoc])
    (fun x suf s hx hs => by
      simp only [List.length_cons] at hs
      refine ⟨Ev.bind (ih x hx (okTs_mem hok.2 x hx)) ?_, ?_⟩
      · rw [app_eq (by simp only [List.length_singleton]; omega) (by omega)]; exact Ev.ret _
      · simp only [List.length_append, List.length_singleton]; omega) (s0 := ([] : List Ty)) (by simpa using hok.1.1)
  rw [foldl_snoc] at h
  exact Ev.bind h (Ev.ret _)
theorem CopyType_ev : ∀ t : Ty, okT t = true → Ev (fun n => R1_CopyType n t) t := Ty.ind fun k nm ks ih hok => by
  refine Ev.succ ?_
  show Ev (fun n => R1_CopyType_body n _ (.mk k nm ks)) _
  unfold R1_CopyType_body
  simp only [Ty.kind, Ty.name]
  simp only [okT, Bool.and_eq_true, decide_eq_true_eq] at hok
  have h := loopFold ks (fun n k' i s => R1_CopyType_L0 n (fun p0 => R1_CopyType n p0) (.mk k nm ks) k' (i, s)) (fun n x s => (R1_CopyType n x).bind fun x2 => app 48 s [x2]) (fun x s => s ++ [x]) (fun s => s) (fun suf s => s.length + suf.length ≤ 2)
    (fun n k' i s => by
      show cond _ _ _ = _
      congr 1
      show (idx ks i).bind _ = _
      congr 1
      funext x
      simp only [Option.bind_assoc])
    (fun x suf s hx hs => by
      simp only [List.length_cons] at hs
      refine ⟨Ev.bind (ih x hx (okTs_mem hok.2 x hx)) ?_, ?_⟩
      · rw [app_eq (by simp only [List.length_singleton]; omega) (by omega)]; exact Ev.ret _
      · simp only [List.length_append, List.length_singleton]; omega) (s0 := ([] : List Ty)) (by simpa using hok.1.1)
  rw [foldl_snoc] at h
  exact Ev.bind h (Ev.ret _)

theorem bne_self' {α : Type} [BEq α] [ReflBEq α] (a : α) : (a != a) = false := by simp [bne]
theorem any_ff {α : Type} (l : List α) : (l.any fun _ => false) = false := by induction l <;> simp_all
theorem SameType_ev : ∀ t : Ty, Ev (fun n => R1_SameType n t t) true := Ty.ind fun k nm ks ih => by
  refine Ev.succ ?_
  show Ev (fun n => R1_SameType_body n _ (.mk k nm ks) (.mk k nm ks)) _
  unfold R1_SameType_body
  simp only [bne_self', beq_self_eq_true, Bool.not_true, cond_false, Option.bind_some]
  have h := loopStop ks (fun n k' i => R1_SameType_L0 n (fun p0 p1 => R1_SameType n p0 p1) (.mk k nm ks) (.mk k nm ks) k' i) (fun n x => (R1_SameType n x x).bind fun b => some (!b)) (fun _ => false) false
    (fun n k' i => by
      show cond _ _ _ = _
      congr 1
      show (idx ks i).bind _ = _
      cases hx : idx ks i with
      | none => rfl
      | some x =>
        show ((idx ks i).bind _) = _
        rw [hx]
        simp only [Option.bind_some, Option.bind_assoc])
    (fun x hx => Ev.bind (ih x hx) (Ev.ret _))
  rw [any_ff] at h
  exact Ev.bind h (Ev.ret _)
end Abs
end Go.Proofs.YtiiaccpcoclklaaGreat
namespace Go.Proofs.YtiiaccpcoclklaaGreat
namespace Abs
open Go

def hasCar (env : Env) (s : Str) : Bool := env.carriers.any fun c => c.name == s
def carB (c : Carrier) : Bool := ident c.name && (!(decide (8 < (c.elems.length : Int))) && c.elems.all ident)
def declB (env : Env) (d : Decl) : Bool := named d.name && ((validT d.ty && !(hasK 2 d.ty)) && (carsT d.ty).all (hasCar env))
def names1 (env : Env) : List Str := (env.carriers.flatMap fun c => c.name :: c.elems) ++ env.names.map (·.name)
def names2 (env : Env) : List Str := env.carriers.map (·.name) ++ (env.carriers.flatMap (·.elems) ++ env.names.map (·.name))
def distA : List Str → List Str → Bool
  | _, [] => true
  | pre, x :: xs => !(pre.any (· == x)) && distA (pre ++ [x]) xs

theorem distA_iff : ∀ (l pre : List Str), distA pre l = true ↔ l.Nodup ∧ ∀ x ∈ l, x ∉ pre
  | [], pre => by simp [distA]
  | x :: l, pre => by
    simp only [distA, Bool.and_eq_true, distA_iff l, Bool.not_eq_true', List.nodup_cons, List.mem_cons, List.any_eq_false, beq_iff_eq, List.mem_append, List.not_mem_nil, or_false]
    constructor
    · rintro ⟨h1, h2, h3⟩
      refine ⟨⟨fun hx => (h3 x hx) (.inr rfl), h2⟩, ?_⟩
      rintro y (rfl | hy)
      · exact fun hp => h1 _ hp rfl
      · exact fun hp => h3 y hy (.inl hp)
    · rintro ⟨⟨h1, h2⟩, h3⟩
      refine ⟨fun y hy e => h3 x (.inl rfl) (e ▸ hy), h2, fun y hy hp => ?_⟩
      rcases hp with hp | rfl
      · exact h3 y (.inr hy) hp
      · exact h1 hy
theorem dist_iff (l : List Str) : distA [] l = true ↔ l.Nodup := by rw [distA_iff]; simp

theorem flat_perm (cs : List Carrier) : (cs.flatMap fun c => c.name :: c.elems).Perm (cs.map (·.name) ++ cs.flatMap (·.elems)) := by
  induction cs with
  | nil => simp
  | cons c cs ih =>
    simp only [List.flatMap_cons, List.map_cons, List.cons_append]
    refine List.Perm.cons _ ?_
    refine (List.Perm.append_left _ ih).trans ?_
    rw [← List.append_assoc, ← List.append_assoc]
    exact List.Perm.append_right _ List.perm_append_comm
theorem names_perm (env : Env) : (names1 env).Perm (names2 env) := by
  unfold names1 names2
  rw [← List.append_assoc]
  exact List.Perm.append_right _ (flat_perm _)
theorem dist12 (env : Env) : distA [] (names1 env) = distA [] (names2 env) := by
  have h : (distA [] (names1 env) = true) ↔ (distA [] (names2 env) = true) := by rw [dist_iff, dist_iff]; exact (names_perm env).nodup_iff
  cases h1 : distA [] (names1 env) <;> cases h2 : distA [] (names2 env) <;> simp_all

def validE (env : Env) : Bool := !(decide (8 < (env.carriers.length : Int)) || decide (64 < (env.names.length : Int))) && (env.carriers.all carB && (env.names.all (declB env) && distA [] (names2 env)))

/-! ### Carriers that are there -/

theorem hasCarrier_ev (env : Env) (s : Str) : Ev (fun n => typing_hasCarrier n env s) (hasCar env s) := by
  unfold typing_hasCarrier slices_ContainsFunc_Carrier slices_IndexFunc_Carrier
  refine Ev.bind (a := hasCar env s) ?_ (Ev.ret _)
  refine Ev.bind (loopFind env.carriers (fun n k i => slices_IndexFunc_Carrier_L0 n env.carriers s k i) (fun _ x => some (x.name == s)) (fun c => c.name == s) (fun n k i => rfl) (fun x _ => Ev.ret _)) ?_
  rw [findI_ge _ _ _ (Int.le_refl _)]
  exact Ev.ret _
theorem mentions_ev (env : Env) {t : Ty} (h : validT t = true) : Ev (fun n => typing_mentions n env t) ((carsT t).all (hasCar env)) := by
  unfold typing_mentions slices_ContainsFunc_string slices_IndexFunc_string
  refine Ev.bind (typing_Carriers_ev h) ?_
  generalize hl : ((putAll ((carsT t).map fun s => (s, true)) []).map (·.1)).mergeSort leS = l
  have hm : ∀ s, s ∈ l ↔ s ∈ carsT t := fun s => by rw [← hl]; exact Carriers_mem t s
  have hf := loopFind l (fun n k i => slices_IndexFunc_string_L0 n l env.carriers env.names k i) (fun n x => typing_mentions_1 n x env.carriers env.names) (fun s => !(hasCar env s)) (fun n k i => rfl) (fun x _ => by
    unfold typing_mentions_1
    exact Ev.bind (hasCarrier_ev env x) (Ev.ret _))
  refine Ev.bind (a := l.any fun s => !(hasCar env s)) (Ev.bind hf ?_) ?_
  · rw [findI_ge _ _ _ (Int.le_refl _)]
    exact Ev.ret _
  · rw [any_not, Bool.not_not]
    have : l.all (hasCar env) = (carsT t).all (hasCar env) := by
      have h : (l.all (hasCar env) = true) ↔ ((carsT t).all (hasCar env) = true) := by simp only [List.all_eq_true, hm]
      cases h1 : l.all (hasCar env) <;> cases h2 : (carsT t).all (hasCar env) <;> simp_all
    rw [this]
    exact Ev.ret _
theorem FindCarrier_ev (env : Env) (s : Str) : Ev (fun n => R2_FindCarrier n env s) (findI (fun c => c.name == s) 0 env.carriers) := by
  unfold R2_FindCarrier
  exact loopFind env.carriers (fun n k i => R2_FindCarrier_L0 n env s k i) (fun _ x => some (x.name == s)) (fun c => c.name == s) (fun n k i => rfl) (fun x _ => Ev.ret _)
theorem lt_not_le (a : Int) : decide (a < 0) = !(decide (0 ≤ a)) := by
  by_cases h : a < 0
  · rw [decide_eq_true h, decide_eq_false (by omega)]; rfl
  · rw [decide_eq_false h, decide_eq_true (by omega)]; rfl
theorem Knows_ev (env : Env) {t : Ty} (h : validT t = true) : Ev (fun n => R2_Knows n env t) ((carsT t).all (hasCar env)) := by
  unfold R2_Knows
  obtain ⟨h1, h2⟩ := valid_ok h
  refine Ev.bind (R2_carriers_ev t h1 h2) ?_
  have hs := loopStop (carsT t) (fun n k i => R2_Knows_L0 n env (carsT t) k i) (fun n x => (R2_FindCarrier n env x).bind fun x3 => some (decide (x3 < 0))) (fun s => !(hasCar env s)) false
    (fun n k i => by
      show cond _ _ _ = _
      congr 1
      congr 1
      funext x
      simp only [Option.bind_assoc, Option.bind_some])
    (fun x _ => by
      refine Ev.bind (FindCarrier_ev env x) ?_
      rw [lt_not_le, findI_ge _ _ _ (Int.le_refl _)]
      exact Ev.ret _)
  rw [any_not] at hs
  refine Ev.bind hs ?_
  cases (carsT t).all (hasCar env)
  · exact Ev.ret _
  · exact Ev.ret _

/-! ### All names -/

theorem declared_ev (env : Env) (h : (names1 env).length ≤ 1000000) : Ev (fun n => typing_declared n env) (names1 env) := by
  unfold typing_declared
  simp only [names1, List.length_append, List.length_map] at h
  have h1 := loopFold env.carriers (fun n k i s => typing_declared_L1 n env k (s, i)) (fun n x s => (app 16 s [x.name]).bind fun x4 => app 16 x4 x.elems) (fun x s => s ++ (x.name :: x.elems)) (fun s => s) (fun suf s => s.length + (suf.flatMap fun c => c.name :: c.elems).length ≤ 1000000)
    (fun n k i s => by
      show cond _ _ _ = _
      congr 1
      show (idx env.carriers i).bind _ = _
      congr 1
      funext x
      simp only [Option.bind_assoc])
    (fun x suf s hx hs => by
      simp only [List.flatMap_cons, List.length_append, List.length_cons] at hs
      refine ⟨?_, ?_⟩
      · rw [app_eq (by simp only [List.length_singleton]; omega) (by omega), Option.bind_some, app_eq (by simp only [List.length_append, List.length_singleton]; omega) (by omega)]
        rw [List.append_assoc]
        exact Ev.ret _
      · simp only [List.length_append, List.length_cons]; omega) (s0 := ([] : List Str)) (by simp only [List.length_nil]; omega)
  have hf1 : ∀ (cs : List Carrier) (s : List Str), cs.foldl (fun s x => s ++ (x.name :: x.elems)) s = s ++ cs.flatMap fun c => c.name :: c.elems := by
    intro cs
    induction cs with
    | nil => intro s; simp
    | cons c cs ih => intro s; rw [List.foldl_cons, ih]; simp
  rw [hf1, List.nil_append] at h1
  have h2 := loopFold env.names (fun n k i s => typing_declared_L0 n env k (s, i)) (fun n x s => app 16 s [x.name]) (fun x s => s ++ [x.name]) (fun s => s) (fun suf s => s.length + suf.length ≤ 1000000)
    (fun n k i s => rfl)
    (fun x suf s hx hs => by
      simp only [List.length_cons] at hs
      refine ⟨?_, ?_⟩
      · rw [app_eq (by simp only [List.length_singleton]; omega) (by omega)]
        exact Ev.ret _
      · simp only [List.length_append, List.length_singleton]; omega) (s0 := env.carriers.flatMap fun c => c.name :: c.elems) (by omega)
  have hf2 : ∀ (cs : List Decl) (s : List Str), cs.foldl (fun s x => s ++ [x.name]) s = s ++ cs.map (·.name) := by
    intro cs
    induction cs with
    | nil => intro s; simp
    | cons c cs ih => intro s; rw [List.foldl_cons, ih]; simp
  rw [hf2] at h2
  exact Ev.bind h1 (Ev.bind h2 (Ev.ret _))

theorem AllNames_ev (env : Env) (h : (names2 env).length ≤ 1000000) : Ev (fun n => R2_AllNames n env) (names2 env) := by
  unfold R2_AllNames
  simp only [names2, List.length_append, List.length_map] at h
  have h0 := loopFold env.carriers (fun n k i s => R2_AllNames_L2 n env k (s, i)) (fun n x s => app 16 s [x.name]) (fun x s => s ++ [x.name]) (fun s => s) (fun suf s => s.length + suf.length ≤ 1000000)
    (fun n k i s => rfl)
    (fun x suf s hx hs => by
      simp only [List.length_cons] at hs
      refine ⟨?_, ?_⟩
      · rw [app_eq (by simp only [List.length_singleton]; omega) (by omega)]
        exact Ev.ret _
      · simp only [List.length_append, List.length_singleton]; omega) (s0 := ([] : List Str)) (by simp only [List.length_nil]; omega)
  have hf0 : ∀ (cs : List Carrier) (s : List Str), cs.foldl (fun s x => s ++ [x.name]) s = s ++ cs.map (·.name) := by
    intro cs
    induction cs with
    | nil => intro s; simp
    | cons c cs ih => intro s; rw [List.foldl_cons, ih]; simp
  rw [hf0, List.nil_append] at h0
  have h1 := loopFold env.carriers (fun n k i s => R2_AllNames_L1 n env k (s, i)) (fun n x s => app 16 s x.elems) (fun x s => s ++ x.elems) (fun s => s) (fun suf s => s.length + (suf.flatMap (·.elems)).length ≤ 1000000)
    (fun n k i s => rfl)
    (fun x suf s hx hs => by
      simp only [List.flatMap_cons, List.length_append] at hs
      refine ⟨?_, ?_⟩
      · rw [app_eq (by omega) (by omega)]
        exact Ev.ret _
      · simp only [List.length_append]; omega) (s0 := env.carriers.map (·.name)) (by simp only [List.length_map]; omega)
  have hf1 : ∀ (cs : List Carrier) (s : List Str), cs.foldl (fun s x => s ++ x.elems) s = s ++ cs.flatMap (·.elems) := by
    intro cs
    induction cs with
    | nil => intro s; simp
    | cons c cs ih => intro s; rw [List.foldl_cons, ih]; simp
  rw [hf1] at h1
  have h2 := loopFold env.names (fun n k i s => R2_AllNames_L0 n env k (s, i)) (fun n x s => app 16 s [x.name]) (fun x s => s ++ [x.name]) (fun s => s) (fun suf s => s.length + suf.length ≤ 1000000)
    (fun n k i s => rfl)
    (fun x suf s hx hs => by
      simp only [List.length_cons] at hs
      refine ⟨?_, ?_⟩
      · rw [app_eq (by simp only [List.length_singleton]; omega) (by omega)]
        exact Ev.ret _
      · simp only [List.length_append, List.length_singleton]; omega) (s0 := env.carriers.map (·.name) ++ env.carriers.flatMap (·.elems)) (by simp only [List.length_append, List.length_map]; omega)
  have hf2 : ∀ (cs : List Decl) (s : List Str), cs.foldl (fun s x => s ++ [x.name]) s = s ++ cs.map (·.name) := by
    intro cs
    induction cs with
    | nil => intro s; simp
    | cons c cs ih => intro s; rw [List.foldl_cons, ih]; simp
  rw [hf2, List.append_assoc] at h2
  exact Ev.bind h0 (Ev.bind h1 (Ev.bind h2 (Ev.ret _)))

theorem distinct_ev (l : List Str) (hl : l.length ≤ 1000000) : Ev (fun n => typing_distinct n l) (distA [] l) := by
  unfold typing_distinct
  have h := loopEv l (fun n k i s => typing_distinct_L0 n l k (i, s)) (fun n x s => (mel (mfind s x) (some false) (fun x3 => some x3) : Option Bool).bind fun s3 => cond s3 (some (.rt false)) ((mput s x true).bind fun x2 => some (.nx x2))) (fun x s => cond ((mfind s x).getD false) (.rt false) (.nx (mputL s x true))) (fun _ => ())
    (fun suf s => s.length + suf.length ≤ 1000000)
    (fun n k i s => by
      show cond _ _ _ = _
      congr 1
      show (idx l i).bind _ = _
      congr 1
      funext x
      cases mfind s x with
      | none => simp only [mel, Option.bind_some, cond_false, Option.bind_assoc]
      | some b => cases b <;> simp only [mel, Option.bind_some, cond_false, cond_true, Option.bind_assoc])
    (fun x suf s hx hs => by
      simp only [List.length_cons] at hs
      refine ⟨?_, fun s' he => ?_⟩
      · rw [mput_eq (by omega)]
        cases mfind s x with
        | none => exact Ev.ret _
        | some b => cases b <;> exact Ev.ret _
      · cases hb : (mfind s x).getD false with
        | true => rw [hb] at he; cases he
        | false =>
          rw [hb] at he
          cases he
          have := mput_len s x true
          omega) (s0 := ([] : List (Str × Bool))) (by simpa using hl)
  have key : ∀ (suf pre : List Str) (s : List (Str × Bool)), (∀ x, mfind s x = if pre.any (· == x) then some true else none) → runL (τ := Unit) (fun x s => cond ((mfind s x).getD false) (.rt false) (.nx (mputL s x true))) (fun _ => ()) suf s = cond (distA pre suf) (.nx ()) (.rt false) := by
    intro suf
    induction suf with
    | nil => intro pre s _; rfl
    | cons x suf ih =>
      intro pre s hs
      simp only [runL, distA]
      rw [hs x]
      cases hb : pre.any (· == x) with
      | true => rfl
      | false =>
        simp only [Bool.false_eq_true, if_false, Option.getD_none, cond_false, Bool.not_false, Bool.true_and]
        refine ih (pre ++ [x]) _ (fun y => ?_)
        rw [mfind_put, hs y]
        simp only [List.any_append, List.any_cons, List.any_nil, Bool.or_false]
        cases hy : (x == y) with
        | true => simp
        | false => simp
  rw [key l [] [] (fun x => rfl)] at h
  refine Ev.bind h ?_
  cases distA [] l
  · exact Ev.ret _
  · exact Ev.ret _

theorem R2_dist_ev (l : List Str) : Ev (fun n => R2_ValidEnv_L0 n l n 0) (cond (distA [] l) (.nx ()) (.rt false)) := by
  have h := loopEvI l (fun n k i (_ : Unit) => R2_ValidEnv_L0 n l k i) (fun n i x _ => (scut l 0 i).bind fun x3 => (R1_In n x x3).bind fun x4 => cond x4 (some (.rt false)) (some (.nx ()))) (fun i x _ => cond ((l.take i.toNat).any (· == x)) (.rt false) (.nx ())) (fun _ => ())
    (fun i suf _ => ∃ pre, l = pre ++ suf ∧ i = (pre.length : Int))
    (fun n k i s => by
      show cond _ _ _ = _
      congr 1
      congr 1
      funext x
      cases scut l 0 i with
      | none => rfl
      | some y =>
        simp only [Option.bind_some]
        cases R1_In n x y with
        | none => rfl
        | some b => cases b <;> rfl)
    (fun i x suf s hx hs => by
      obtain ⟨pre, hp, rfl⟩ := hs
      refine ⟨?_, fun _ _ => ⟨pre ++ [x], by rw [hp]; simp, by simp⟩⟩
      rw [scut_all l pre.length (by rw [hp]; simp)]
      simp only [Option.bind_some, Int.toNat_natCast]
      refine Ev.bind (R1_In_ev _ _) ?_
      cases (l.take pre.length).any (· == x)
      · exact Ev.ret _
      · exact Ev.ret _) (s0 := ()) ⟨[], rfl, rfl⟩
  have key : ∀ (suf pre : List Str), l = pre ++ suf → runI (τ := Unit) (fun i x _ => cond ((l.take i.toNat).any (· == x)) (.rt false) (.nx ())) (fun _ => ()) (pre.length : Int) suf () = cond (distA pre suf) (.nx ()) (.rt false) := by
    intro suf
    induction suf with
    | nil => intro pre _; rfl
    | cons x suf ih =>
      intro pre hp
      have ht : l.take pre.length = pre := by rw [hp]; simp
      simp only [runI, distA, Int.toNat_natCast, ht]
      cases pre.any (· == x) with
      | true => rfl
      | false =>
        have := ih (pre ++ [x]) (by rw [hp]; simp)
        simp only [List.length_append, List.length_singleton, Int.natCast_add, Int.natCast_one] at this
        simpa using this
  have := key l [] rfl
  simp only [List.length_nil, Int.natCast_zero] at this
  rw [this] at h
  exact h

/-! ### ValidEnv -/

theorem short_names {env : Env} (h1 : ¬ 8 < (env.carriers.length : Int)) (h2 : ¬ 64 < (env.names.length : Int)) (h3 : env.carriers.all carB = true) : (names2 env).length ≤ 1000 := by
  have key : ∀ cs : List Carrier, cs.all carB = true → (cs.flatMap (·.elems)).length ≤ 8 * cs.length := by
    intro cs
    induction cs with
    | nil => intro _; simp
    | cons c cs ih =>
      intro h
      simp only [List.all_cons, Bool.and_eq_true, carB, Bool.not_eq_true', decide_eq_false_iff_not] at h
      have := ih (by simpa only [List.all_eq_true, carB] using h.2)
      simp only [List.flatMap_cons, List.length_append, List.length_cons]
      omega
  have := key _ h3
  simp only [names2, List.length_append, List.length_map]
  omega

theorem typing_ValidEnv_ev (env : Env) (hs : ∀ d ∈ env.names, d.name.length ≤ 9223372036854775807) : Ev (fun n => typing_ValidEnv n env) (validE env) := by
  unfold typing_ValidEnv
  by_cases h1 : 8 < (env.carriers.length : Int)
  · have : validE env = false := by simp only [validE, decide_eq_true h1, Bool.true_or, Bool.not_true, Bool.false_and]
    rw [this, decide_eq_true h1]
    exact Ev.ret _
  by_cases h2 : 64 < (env.names.length : Int)
  · have : validE env = false := by simp only [validE, decide_eq_true h2, Bool.or_true, Bool.not_true, Bool.false_and]
    rw [this, decide_eq_true h2, decide_eq_false h1]
    exact Ev.ret _
  simp only [validE, decide_eq_false h1, decide_eq_false h2, Bool.or_false, Bool.not_false, Bool.true_and, cond_false, Option.bind_some]
  have hcar := loopStopR env.carriers (fun n k i => typing_ValidEnv_L1 n env k i) (fun n x => ((term_Identifier n x.name).bind fun x10 => cond (!x10) (some true) (some (decide (8 < (x.elems.length : Int))))).bind fun s7 => cond s7 (some (.rt false)) ((typing_ValidEnv_L2 n x n 0).bind (LR.el (fun _ => some (.nx ())) (fun r => some (.rt r))))) (fun c => !(carB c)) false
    (fun n k i => by
      show cond _ _ _ = _
      congr 1
      congr 1
      funext x
      cases ((term_Identifier n x.name).bind fun x10 => cond (!x10) (some true) (some (decide (8 < (x.elems.length : Int))))) with
      | none => rfl
      | some b =>
        cases b with
        | true => rfl
        | false =>
          simp only [Option.bind_some, cond_false]
          cases typing_ValidEnv_L2 n x n 0 with
          | none => rfl
          | some r => cases r <;> rfl)
    (fun c hc => by
      refine Ev.bind (a := !(ident c.name) || decide (8 < (c.elems.length : Int))) (Ev.bind (term_Identifier_ev c.name) ?_) ?_
      · cases ident c.name
        · exact Ev.ret _
        · exact Ev.ret _
      · unfold carB
        cases ident c.name with
        | false => exact Ev.ret _
        | true =>
          cases decide (8 < (c.elems.length : Int)) with
          | true => exact Ev.ret _
          | false =>
            simp only [Bool.not_true, Bool.false_or, cond_false, Bool.true_and, Bool.not_false]
            have h := loopStop c.elems (fun n k i => typing_ValidEnv_L2 n c k i) (fun n x => (term_Identifier n x).bind fun x9 => some (!x9)) (fun s => !(ident s)) false
              (fun n k i => by
                show cond _ _ _ = _
                congr 1
                congr 1
                funext x
                simp only [Option.bind_assoc, Option.bind_some])
              (fun x _ => Ev.bind (term_Identifier_ev x) (Ev.ret _))
            rw [any_not] at h
            refine Ev.bind h ?_
            cases c.elems.all ident
            · exact Ev.ret _
            · exact Ev.ret _)
  rw [any_not] at hcar
  refine Ev.bind hcar ?_
  cases hc : env.carriers.all carB with
  | false => exact Ev.ret _
  | true =>
    simp only [Bool.not_true, cond_false, Bool.true_and]
    have hdecl := loopStop env.names (fun n k i => typing_ValidEnv_L0 n env k i) (fun n x => (typing_nameable n x.name).bind fun x4 => cond (!x4) (some true) ((typing_declarable n x.ty).bind fun x5 => cond (!x5) (some true) ((typing_mentions n env x.ty).bind fun x6 => some (!x6)))) (fun d => !(declB env d)) false
      (fun n k i => rfl)
      (fun d hd => by
        refine Ev.bind (nameable_ev d.name (hs d hd)) ?_
        unfold declB
        cases named d.name with
        | false => exact Ev.ret _
        | true =>
          simp only [Bool.not_true, cond_false, Bool.true_and]
          refine Ev.bind (a := validT d.ty && !(hasK 2 d.ty)) ?_ ?_
          · unfold typing_declarable
            refine Ev.bind (a := validT d.ty && !(hasK 2 d.ty)) (Ev.bind (term_ValidType_ev d.ty) ?_) (Ev.ret _)
            cases validT d.ty with
            | false => exact Ev.ret _
            | true => exact Ev.bind (contains_ev 2 d.ty) (Ev.ret _)
          · cases hv : validT d.ty with
            | false => exact Ev.ret _
            | true =>
              cases hasK 2 d.ty with
              | true => exact Ev.ret _
              | false => exact Ev.bind (mentions_ev env hv) (Ev.ret _))
    rw [any_not] at hdecl
    refine Ev.bind hdecl ?_
    cases hd : env.names.all (declB env) with
    | false => exact Ev.ret _
    | true =>
      simp only [Bool.not_true, cond_false, Bool.true_and]
      have hlen := short_names h1 h2 hc
      have hlen1 : (names1 env).length ≤ 1000 := by rw [(names_perm env).length_eq]; exact hlen
      refine Ev.bind (declared_ev env (by omega)) ?_
      rw [← dist12]
      exact Ev.bind (distinct_ev _ (by omega)) (Ev.ret _)

theorem R2_ValidEnv_ev (env : Env) : Ev (fun n => R2_ValidEnv n env) (validE env) := by
  unfold R2_ValidEnv
  by_cases h1 : 8 < (env.carriers.length : Int)
  · have : validE env = false := by simp only [validE, decide_eq_true h1, Bool.true_or, Bool.not_true, Bool.false_and]
    rw [this, decide_eq_true h1]
    exact Ev.ret _
  by_cases h2 : 64 < (env.names.length : Int)
  · have : validE env = false := by simp only [validE, decide_eq_true h2, Bool.or_true, Bool.not_true, Bool.false_and]
    rw [this, decide_eq_true h2, decide_eq_false h1]
    exact Ev.ret _
  simp only [validE, decide_eq_false h1, decide_eq_false h2, Bool.or_false, Bool.not_false, Bool.true_and, cond_false, Option.bind_some]
  have hcar := loopStopR env.carriers (fun n k i => R2_ValidEnv_L2 n env k i) (fun n x => ((R1_Identifier n x.name).bind fun x10 => cond (!x10) (some true) (some (decide (8 < (x.elems.length : Int))))).bind fun s7 => cond s7 (some (.rt false)) ((R2_ValidEnv_L3 n x n 0).bind (LR.el (fun _ => some (.nx ())) (fun r => some (.rt r))))) (fun c => !(carB c)) false
    (fun n k i => by
      show cond _ _ _ = _
      congr 1
      congr 1
      funext x
      cases ((R1_Identifier n x.name).bind fun x10 => cond (!x10) (some true) (some (decide (8 < (x.elems.length : Int))))) with
      | none => rfl
      | some b =>
        cases b with
        | true => rfl
        | false =>
          simp only [Option.bind_some, cond_false]
          cases R2_ValidEnv_L3 n x n 0 with
          | none => rfl
          | some r => cases r <;> rfl)
    (fun c hc => by
      refine Ev.bind (a := !(ident c.name) || decide (8 < (c.elems.length : Int))) (Ev.bind (R1_Identifier_ev c.name) ?_) ?_
      · cases ident c.name
        · exact Ev.ret _
        · exact Ev.ret _
      · unfold carB
        cases ident c.name with
        | false => exact Ev.ret _
        | true =>
          cases decide (8 < (c.elems.length : Int)) with
          | true => exact Ev.ret _
          | false =>
            simp only [Bool.not_true, Bool.false_or, cond_false, Bool.true_and, Bool.not_false]
            have h := loopStop c.elems (fun n k i => R2_ValidEnv_L3 n c k i) (fun n x => (R1_Identifier n x).bind fun x9 => some (!x9)) (fun s => !(ident s)) false
              (fun n k i => by
                show cond _ _ _ = _
                congr 1
                congr 1
                funext x
                simp only [Option.bind_assoc, Option.bind_some])
              (fun x _ => Ev.bind (R1_Identifier_ev x) (Ev.ret _))
            rw [any_not] at h
            refine Ev.bind h ?_
            cases c.elems.all ident
            · exact Ev.ret _
            · exact Ev.ret _)
  rw [any_not] at hcar
  refine Ev.bind hcar ?_
  cases hc : env.carriers.all carB with
  | false => exact Ev.ret _
  | true =>
    simp only [Bool.not_true, cond_false, Bool.true_and]
    have hdecl := loopStop env.names (fun n k i => R2_ValidEnv_L1 n env k i) (fun n x => (R1_Named n x.name).bind fun x6 => cond (!x6) (some true) ((R1_ValidType n x.ty).bind fun x7 => cond (!x7) (some true) ((R2_holdsBool n x.ty).bind fun x8 => cond x8 (some true) ((R2_Knows n env x.ty).bind fun x9 => some (!x9))))) (fun d => !(declB env d)) false
      (fun n k i => rfl)
      (fun d hd => by
        refine Ev.bind (R1_Named_ev d.name) ?_
        unfold declB
        cases named d.name with
        | false => exact Ev.ret _
        | true =>
          simp only [Bool.not_true, cond_false, Bool.true_and]
          refine Ev.bind (R1_ValidType_ev d.ty) ?_
          cases hv : validT d.ty with
          | false => exact Ev.ret _
          | true =>
            refine Ev.bind (holdsBool_ev d.ty) ?_
            cases hasK 2 d.ty with
            | true => exact Ev.ret _
            | false => exact Ev.bind (Knows_ev env hv) (Ev.ret _))
    rw [any_not] at hdecl
    refine Ev.bind hdecl ?_
    cases hd : env.names.all (declB env) with
    | false => exact Ev.ret _
    | true =>
      simp only [Bool.not_true, cond_false, Bool.true_and]
      have hlen := short_names h1 h2 hc
      refine Ev.bind (AllNames_ev env (by omega)) ?_
      refine Ev.bind (R2_dist_ev _) ?_
      cases distA [] (names2 env)
      · exact Ev.ret _
      · exact Ev.ret _
end Abs
end Go.Proofs.YtiiaccpcoclklaaGreat
namespace Go.Proofs.YtiiaccpcoclklaaGreat
namespace Abs
open Go

theorem valid_parts {env : Env} (h : validE env = true) : env.carriers.length ≤ 8 ∧ env.names.length ≤ 64 ∧ env.carriers.all carB = true ∧ env.names.all (declB env) = true ∧ (names2 env).Nodup := by
  simp only [validE, Bool.and_eq_true, Bool.not_eq_true', Bool.or_eq_false_iff, decide_eq_false_iff_not, dist_iff] at h
  obtain ⟨⟨h1, h2⟩, h3, h4, h5⟩ := h
  exact ⟨by omega, by omega, h3, h4, h5⟩
theorem valid_decl {env : Env} (h : validE env = true) {d : Decl} (hd : d ∈ env.names) : named d.name = true ∧ validT d.ty = true ∧ hasK 2 d.ty = false ∧ (carsT d.ty).all (hasCar env) = true := by
  have := List.all_eq_true.1 (valid_parts h).2.2.2.1 d hd
  simp only [declB, Bool.and_eq_true, Bool.not_eq_true'] at this
  exact ⟨this.1, this.2.1.1, this.2.1.2, this.2.2⟩
theorem valid_car {env : Env} (h : validE env = true) {c : Carrier} (hc : c ∈ env.carriers) : ident c.name = true ∧ c.elems.length ≤ 8 ∧ c.elems.all ident = true := by
  have := List.all_eq_true.1 (valid_parts h).2.2.1 c hc
  simp only [carB, Bool.and_eq_true, Bool.not_eq_true', decide_eq_false_iff_not] at this
  exact ⟨this.1, by omega, this.2.2⟩

def tyC (s : Str) : Ty := .mk 3 s []
def tySet (t : Ty) : Ty := .mk 5 [] [t]
def carAssoc (c : Carrier) : List (Str × Ty) := (c.name, tySet (tyC c.name)) :: c.elems.map fun e => (e, tyC c.name)
def assoc1 (env : Env) : List (Str × Ty) := env.carriers.flatMap carAssoc ++ env.names.map fun d => (d.name, d.ty)
def assoc2 (env : Env) : List (Str × Ty) := (env.names.map fun d => (d.name, d.ty)) ++ ((env.carriers.map fun c => (c.name, tySet (tyC c.name))) ++ env.carriers.flatMap fun c => c.elems.map fun e => (e, tyC c.name))
/-- What a name stands for. -/
def look (env : Env) (s : Str) : Option Ty := mfind (assoc2 env) s

theorem assoc_perm (env : Env) : (assoc1 env).Perm (assoc2 env) := by
  unfold assoc1 assoc2
  refine List.Perm.trans ?_ List.perm_append_comm
  refine List.Perm.append_right _ ?_
  generalize env.carriers = cs
  induction cs with
  | nil => simp
  | cons c cs ih =>
    simp only [List.flatMap_cons, List.map_cons, List.cons_append, carAssoc]
    refine List.Perm.cons _ ?_
    refine (List.Perm.append_left _ ih).trans ?_
    rw [← List.append_assoc, ← List.append_assoc]
    exact List.Perm.append_right _ List.perm_append_comm
theorem assoc1_keys (env : Env) : (assoc1 env).map (·.1) = names1 env := by
  simp only [assoc1, names1, List.map_append, List.map_map, List.map_flatMap, carAssoc, List.map_cons]
  congr 1
  · congr 1
    funext c
    simp [Function.comp_def]
theorem assoc1_nodup {env : Env} (h : validE env = true) : ((assoc1 env).map (·.1)).Nodup := by
  rw [assoc1_keys, (names_perm env).nodup_iff]
  exact (valid_parts h).2.2.2.2

theorem look_mem {env : Env} (h : validE env = true) {s : Str} {t : Ty} : look env s = some t ↔ (s, t) ∈ assoc1 env := by
  unfold look
  rw [← mfind_perm (assoc_perm env) (assoc1_nodup h), mfind_mem _ _ _ (assoc1_nodup h)]
theorem look_ok {env : Env} (h : validE env = true) {s : Str} {t : Ty} (ht : look env s = some t) : okT t = true := by
  rw [look_mem h] at ht
  simp only [assoc1, List.mem_append, List.mem_flatMap, carAssoc, List.mem_cons, List.mem_map, Prod.mk.injEq] at ht
  rcases ht with ⟨c, hc, ⟨_, rfl⟩ | ⟨e, _, _, rfl⟩⟩ | ⟨d, hd, _, rfl⟩
  · rfl
  · rfl
  · exact (valid_ok (valid_decl h hd).2.1).1

theorem names_ev {env : Env} (h : validE env = true) : Ev (fun n => typing_names n env) (putAll (assoc1 env) []) := by
  obtain ⟨hc8, hn64, _, _, _⟩ := valid_parts h
  unfold typing_names
  have hin : ∀ (c : Carrier) (m : List (Str × Ty)), c.elems.length ≤ 8 → m.length ≤ 10000 → Ev (fun n => typing_names_L2 n c n (0, m)) (.nx (putAll (c.elems.map fun e => (e, tyC c.name)) m)) := fun c m hce hm => by
    have h1 := loopFold (ρ := List (Str × Ty)) c.elems (fun n k i s => typing_names_L2 n c k (i, s)) (fun n x s => mput s x (tyC c.name)) (fun x s => mputL s x (tyC c.name)) (fun s => s) (fun suf s => s.length + suf.length ≤ 10008)
      (fun n k i s => rfl)
      (fun x suf s hx hs => by
        simp only [List.length_cons] at hs
        refine ⟨?_, ?_⟩
        · rw [mput_eq (by omega)]; exact Ev.ret _
        · have := mput_len s x (tyC c.name); omega) (s0 := m) (by omega)
    have hf : ∀ (es : List Str) (m : List (Str × Ty)), es.foldl (fun s x => mputL s x (tyC c.name)) m = putAll (es.map fun e => (e, tyC c.name)) m := by
      intro es
      induction es with
      | nil => intro m; rfl
      | cons e es ih => intro m; rw [List.foldl_cons, ih]; rfl
    rw [hf] at h1
    exact h1
  have h1 := loopEv env.carriers (fun n k i s => typing_names_L1 n env k (i, s)) (fun n x s => (mput s x.name (tySet (tyC x.name))).bind fun x4 => (typing_names_L2 n x n (0, x4)).bind (LR.el (fun s6 => some (.nx s6)) (fun r => some (.rt r)))) (fun x s => .nx (putAll (carAssoc x) s)) (fun s => s)
    (fun suf s => s.length + 9 * suf.length ≤ 100)
    (fun n k i s => by
      show cond _ _ _ = _
      congr 1
      show (idx env.carriers i).bind _ = _
      congr 1
      funext x
      show (mput s x.name (tySet (tyC x.name))).bind _ = _
      cases mput s x.name (tySet (tyC x.name)) with
      | none => rfl
      | some y =>
        simp only [Option.bind_some]
        cases typing_names_L2 n x n (0, y) with
        | none => rfl
        | some r => cases r <;> rfl)
    (fun x suf s hx hs => by
      simp only [List.length_cons] at hs
      have hx8 := (valid_car h hx).2.1
      refine ⟨?_, fun s' he => ?_⟩
      · rw [mput_eq (by omega)]
        simp only [Option.bind_some]
        have := mput_len s x.name (tySet (tyC x.name))
        exact Ev.bind (hin x _ hx8 (by omega)) (Ev.ret _)
      · cases he
        have := putAll_len (carAssoc x) s
        simp only [carAssoc, List.length_cons, List.length_map] at this ⊢
        omega) (s0 := ([] : List (Str × Ty))) (by simp only [List.length_nil]; omega)
  rw [runL_fold] at h1
  have hf1 : ∀ (cs : List Carrier) (m : List (Str × Ty)), cs.foldl (fun s x => putAll (carAssoc x) s) m = putAll (cs.flatMap carAssoc) m := by
    intro cs
    induction cs with
    | nil => intro m; rfl
    | cons c cs ih => intro m; rw [List.foldl_cons, ih, List.flatMap_cons, putAll_app]
  rw [hf1] at h1
  have hl1 : (putAll (env.carriers.flatMap carAssoc) []).length ≤ 100 := by
    have key : ∀ cs : List Carrier, (∀ c ∈ cs, c.elems.length ≤ 8) → (cs.flatMap carAssoc).length ≤ 9 * cs.length := by
      intro cs
      induction cs with
      | nil => intro _; simp
      | cons c cs ih =>
        intro hh
        have a := hh c (List.mem_cons_self ..)
        have b := ih fun c hc => hh c (List.mem_cons_of_mem _ hc)
        simp only [List.flatMap_cons, List.length_append, carAssoc, List.length_cons, List.length_map] at b ⊢
        omega
    have a := key env.carriers fun c hc => (valid_car h hc).2.1
    have b := putAll_len (env.carriers.flatMap carAssoc) []
    simp only [List.length_nil] at b
    omega
  have h2 := loopFold (ρ := List (Str × Ty)) env.names (fun n k i s => typing_names_L0 n env k (i, s)) (fun n x s => mput s x.name x.ty) (fun x s => mputL s x.name x.ty) (fun s => s) (fun suf s => s.length + suf.length ≤ 1000)
    (fun n k i s => rfl)
    (fun x suf s hx hs => by
      simp only [List.length_cons] at hs
      refine ⟨?_, ?_⟩
      · rw [mput_eq (by omega)]; exact Ev.ret _
      · have := mput_len s x.name x.ty; omega) (s0 := putAll (env.carriers.flatMap carAssoc) []) (by omega)
  have hf2 : ∀ (ds : List Decl) (m : List (Str × Ty)), ds.foldl (fun s x => mputL s x.name x.ty) m = putAll (ds.map fun d => (d.name, d.ty)) m := by
    intro ds
    induction ds with
    | nil => intro m; rfl
    | cons e es ih => intro m; rw [List.foldl_cons, ih]; rfl
  rw [hf2, ← putAll_app] at h2
  exact Ev.bind h1 (Ev.bind h2 (Ev.ret _))

def tyZero : Ty := .mk 0 [] []
def lookP (env : Env) (s : Str) : Ty × Bool := match look env s with | some t => (t, true) | none => (tyZero, false)

theorem typing_Lookup_ev (env : Env) (hs : ∀ d ∈ env.names, d.name.length ≤ 9223372036854775807) (s : Str) : Ev (fun n => typing_Lookup n env s) (cond (validE env) (lookP env s) (tyZero, false)) := by
  unfold typing_Lookup
  refine Ev.bind (typing_ValidEnv_ev env hs) ?_
  cases h : validE env with
  | false => exact Ev.ret _
  | true =>
    simp only [Bool.not_true, cond_false, cond_true, lookP]
    have hm : mfind (putAll (assoc1 env) []) s = look env s := by
      rw [mfind_putAll _ _ _ (assoc1_nodup h), mfind_nil]
      unfold look
      rw [← mfind_perm (assoc_perm env) (assoc1_nodup h)]
      cases mfind (assoc1 env) s <;> rfl
    cases hl : look env s with
    | none =>
      refine Ev.bind (a := (false, 0, ([] : Str), ([] : List Ty))) (Ev.bind (names_ev h) ?_) ?_
      · rw [hm, hl]; exact Ev.ret _
      · exact Ev.bind (copyType_ev tyZero rfl) (Ev.ret _)
    | some t =>
      refine Ev.bind (a := (true, t.kind, t.name, t.kids)) (Ev.bind (names_ev h) ?_) ?_
      · rw [hm, hl]; exact Ev.ret _
      · obtain ⟨k, nm, ks⟩ := t
        exact Ev.bind (copyType_ev (.mk k nm ks) (look_ok h hl)) (Ev.ret _)

/-! ### The document's look-up -/

theorem mfind_append {α : Type} (a b : List (Str × α)) (k : Str) : mfind (a ++ b) k = (match mfind a k with | some v => some v | none => mfind b k) := by
  induction a with
  | nil => rfl
  | cons p a ih =>
    rw [List.cons_append, mfind_cons, mfind_cons]
    by_cases h : (p.1 == k) = true
    · rw [if_pos h, if_pos h]
    · rw [if_neg h, if_neg h, ih]
theorem mfind_map {α β : Type} (f : α → Str) (g : α → β) (l : List α) (k : Str) : mfind (l.map fun x => (f x, g x)) k = (l.find? fun x => f x == k).map g := by
  induction l with
  | nil => rfl
  | cons x l ih =>
    rw [List.map_cons, mfind_cons, List.find?_cons, ih]
    cases f x == k <;> rfl
theorem mfind_flat (cs : List Carrier) (k : Str) : mfind (cs.flatMap fun c => c.elems.map fun e => (e, tyC c.name)) k = (cs.find? fun c => c.elems.any (· == k)).map fun c => tyC c.name := by
  induction cs with
  | nil => rfl
  | cons c cs ih =>
    rw [List.flatMap_cons, mfind_append, List.find?_cons, ih]
    rw [mfind_map (fun e => e) (fun _ => tyC c.name)]
    cases hf : c.elems.find? (fun e => e == k) with
    | none =>
      have : c.elems.any (· == k) = false := by
        rw [List.any_eq_false]
        exact List.find?_eq_none.1 hf
      rw [this]; rfl
    | some e =>
      have : c.elems.any (· == k) = true := by
        rw [List.any_eq_true]
        exact ⟨e, List.mem_of_find?_eq_some hf, List.find?_some (p := fun e => e == k) hf⟩
      rw [this]; rfl

def findE (s : Str) : Int → List Carrier → Int × Int
  | _, [] => (-1, -1)
  | i, c :: cs => cond (c.elems.any (· == s)) (i, findI (· == s) 0 c.elems) (findE s (i + 1) cs)
theorem findE_fst (s : Str) : ∀ (cs : List Carrier) (i : Int), (findE s i cs).1 = findI (fun c => c.elems.any (· == s)) i cs
  | [], _ => rfl
  | c :: cs, i => by
    simp only [findE, findI]
    cases c.elems.any (· == s)
    · exact findE_fst s cs (i + 1)
    · rfl

theorem FindElement_ev (env : Env) (s : Str) : Ev (fun n => R2_FindElement n env s) (findE s 0 env.carriers) := by
  unfold R2_FindElement
  have hin : ∀ (i : Int) (c : Carrier), idx env.carriers i = some c → Ev (fun n => R2_FindElement_L1 n env s i n 0) (cond (c.elems.any (· == s)) (.rt (i, findI (· == s) 0 c.elems)) (.nx ())) := fun i c hi => by
    have h1 := loopEvI c.elems (fun n k j (_ : Unit) => R2_FindElement_L1 n env s i k j) (fun _ j x _ => some (cond (x == s) (.rt (i, j)) (.nx ()))) (fun j x _ => cond (x == s) (.rt (i, j)) (.nx ())) (fun _ => ()) (fun _ _ _ => True)
      (fun n k j _ => by
        show (idx env.carriers i).bind _ = _
        rw [hi, Option.bind_some]
        congr 1
        rw [Option.bind_some]
        congr 1
        funext x
        cases x == s <;> rfl)
      (fun j x suf _ hx _ => ⟨Ev.ret _, fun _ _ => trivial⟩) (s0 := ()) trivial
    have key : ∀ (l : List Str) (j : Int), runI (τ := Unit) (fun j x _ => cond (x == s) (.rt (i, j)) (.nx ())) (fun _ => ()) j l () = cond (l.any (· == s)) (.rt (i, findI (· == s) j l)) (.nx ()) := by
      intro l
      induction l with
      | nil => intro j; rfl
      | cons x l ih =>
        intro j
        simp only [runI, List.any_cons, findI]
        cases x == s with
        | true => rfl
        | false => exact ih (j + 1)
    rw [key] at h1
    exact h1
  have h2 := loopEvI env.carriers (fun n k i (_ : Unit) => R2_FindElement_L0 n env s k i) (fun n i _ _ => R2_FindElement_L1 n env s i n 0) (fun i c _ => cond (c.elems.any (· == s)) (.rt (i, findI (· == s) 0 c.elems)) (.nx ())) (fun _ => ()) (fun i suf _ => ∃ pre, env.carriers = pre ++ suf ∧ i = (pre.length : Int))
    (fun n k i _ => by
      show cond _ _ _ = _
      congr 1
      cases hi : idx env.carriers i with
      | none =>
        have : R2_FindElement_L1 n env s i n 0 = none := by
          cases n with
          | zero => rfl
          | succ m =>
            show (idx env.carriers i).bind _ = none
            rw [hi]; rfl
        rw [this]; rfl
      | some x => rfl)
    (fun i x suf _ hx hs => by
      obtain ⟨pre, hp, rfl⟩ := hs
      exact ⟨hin _ x (by rw [hp]; exact idx_at pre x suf), fun _ _ => ⟨pre ++ [x], by rw [hp]; simp, by simp⟩⟩) (s0 := ()) ⟨[], rfl, rfl⟩
  refine Ev.bind h2 ?_
  have key : ∀ (l : List Carrier) (i : Int), (match runI (τ := Unit) (fun i (c : Carrier) _ => cond (c.elems.any (· == s)) (.rt (i, findI (· == s) 0 c.elems)) (.nx ())) (fun _ => ()) i l () with | .nx _ => ((-1, -1) : Int × Int) | .rt r => r) = findE s i l := by
    intro l
    induction l with
    | nil => intro i; rfl
    | cons c l ih =>
      intro i
      simp only [runI, findE]
      cases c.elems.any (· == s) with
      | true => rfl
      | false => exact ih (i + 1)
  rw [← key env.carriers 0]
  generalize runI (τ := Unit) (fun i (c : Carrier) _ => cond (c.elems.any (· == s)) (.rt (i, findI (· == s) 0 c.elems)) (.nx ())) (fun _ => ()) 0 env.carriers () = R
  cases R
  · exact Ev.ret _
  · exact Ev.ret _

theorem FindName_ev (env : Env) (s : Str) : Ev (fun n => R2_FindName n env s) (findI (fun d => d.name == s) 0 env.names) := by
  unfold R2_FindName
  exact loopFind env.names (fun n k i => R2_FindName_L0 n env s k i) (fun _ x => some (x.name == s)) (fun c => c.name == s) (fun n k i => rfl) (fun x _ => Ev.ret _)

/-- What the document finds for a name behind the bound ones. -/
theorem denotes_env_ev (env : Env) (s : Str) : Ev (fun n => (R2_FindName n env s).bind fun (x1 : Int) => (cond (decide (0 ≤ x1)) ((idx env.names x1).bind fun (x2 : Decl) => some (x2.ty, true)) ((R2_FindCarrier n env s).bind fun (x3 : Int) => (cond (decide (0 ≤ x3)) (some ((Ty.mk 5 ([] : Str) ([(Ty.mk 3 s ([]))])), true)) ((R2_FindElement n env s).bind fun (x4 : Int × Int) => (cond (decide (0 ≤ x4.1)) ((idx env.carriers x4.1).bind fun (x5 : Carrier) => some ((Ty.mk 3 x5.name ([])), true)) (some ((Ty.mk 0 ([] : Str) ([])), false)))))))) (lookP env s) := by
  refine Ev.bind (FindName_ev env s) ?_
  unfold lookP look assoc2
  rw [mfind_append, mfind_append, mfind_map (fun d : Decl => d.name) (fun d => d.ty), mfind_map (fun c : Carrier => c.name) (fun c => tySet (tyC c.name)), mfind_flat]
  rcases findI_get (fun d : Decl => d.name == s) env.names [] with ⟨x, h1, h2, h3, h4⟩ | ⟨h1, h2⟩
  · simp only [List.length_nil, Int.natCast_zero, List.nil_append] at h3 h4
    rw [h1, decide_eq_true h3, h4]
    exact Ev.ret _
  · simp only [List.length_nil, Int.natCast_zero] at h2
    rw [h1, h2]
    simp only [show decide ((0 : Int) ≤ -1) = false from rfl, cond_false, Option.map_none]
    refine Ev.bind (FindCarrier_ev env s) ?_
    rcases findI_get (fun c : Carrier => c.name == s) env.carriers [] with ⟨x, h1, h2, h3, h4⟩ | ⟨h1, h2⟩
    · simp only [List.length_nil, Int.natCast_zero, List.nil_append] at h3 h4
      rw [h1, decide_eq_true h3]
      have e : x.name = s := by simpa using h2
      subst e
      exact Ev.ret _
    · simp only [List.length_nil, Int.natCast_zero] at h2
      rw [h1, h2]
      simp only [show decide ((0 : Int) ≤ -1) = false from rfl, cond_false, Option.map_none]
      refine Ev.bind (FindElement_ev env s) ?_
      rw [findE_fst]
      rcases findI_get (fun c : Carrier => c.elems.any (· == s)) env.carriers [] with ⟨x, h1, h2, h3, h4⟩ | ⟨h1, h2⟩
      · simp only [List.length_nil, Int.natCast_zero, List.nil_append] at h3 h4
        rw [h1, decide_eq_true h3, h4]
        exact Ev.ret _
      · simp only [List.length_nil, Int.natCast_zero] at h2
        rw [h1, h2]
        exact Ev.ret _

theorem denotes0_ev (env : Env) (s : Str) : Ev (fun n => R2_denotes n env [] s) (lookP env s) := by
  unfold R2_denotes
  have h1 : Ev (fun n => R2_denotes_L0 n [] s n ((([] : List Decl).length : Int) - 1)) (.nx ()) := ⟨1, fun n hn => by
    cases n with
    | zero => omega
    | succ m => rfl⟩
  refine Ev.bind h1 ?_
  exact denotes_env_ev env s

theorem R2_Lookup_ev (env : Env) (s : Str) : Ev (fun n => R2_Lookup n env s) (cond (validE env) (lookP env s) (tyZero, false)) := by
  unfold R2_Lookup
  refine Ev.bind (R2_ValidEnv_ev env) ?_
  cases h : validE env with
  | false => exact Ev.ret _
  | true =>
    simp only [Bool.not_true, cond_false, cond_true]
    refine Ev.bind (denotes0_ev env s) ?_
    unfold lookP
    cases hl : look env s with
    | none => exact Ev.bind (CopyType_ev tyZero rfl) (Ev.ret _)
    | some t => exact Ev.bind (CopyType_ev t (look_ok h hl)) (Ev.ret _)

/-! ### Copies of environments, With -/

theorem copyEnv_ev {env : Env} (h : validE env = true) : Ev (fun n => typing_copyEnv n env) (env.carriers, env.names) := by
  obtain ⟨hc8, hn64, _, _, _⟩ := valid_parts h
  unfold typing_copyEnv
  have h1 := loopFold (ρ := (List Carrier) × (List Decl)) env.carriers (fun n k i s => typing_copyEnv_L1 n env k (i, s)) (fun n x s => (slices_Clone_string n x.elems).bind fun x5 => app 40 s [Carrier.mk x.name x5]) (fun x s => s ++ [x]) (fun s => s) (fun suf s => s.length + suf.length ≤ 8)
    (fun n k i s => by
      show cond _ _ _ = _
      congr 1
      show (idx env.carriers i).bind _ = _
      congr 1
      funext x
      simp only [Option.bind_assoc])
    (fun x suf s hx hs => by
      simp only [List.length_cons] at hs
      have hx8 := (valid_car h hx).2.1
      refine ⟨?_, ?_⟩
      · unfold slices_Clone_string
        rw [app_eq (by simp only [List.length_nil]; omega) (by omega), Option.bind_some, app_eq (by simp only [List.length_singleton]; omega) (by omega)]
        exact Ev.ret _
      · simp only [List.length_append, List.length_singleton]; omega) (s0 := ([] : List Carrier)) (by simp only [List.length_nil]; omega)
  rw [foldl_snoc, List.nil_append] at h1
  have h2 := loopFold (ρ := (List Carrier) × (List Decl)) env.names (fun n k i s => typing_copyEnv_L0 n env k (i, s)) (fun n x s => (typing_copyType n x.ty).bind fun x2 => app 64 s [Decl.mk x.name x2]) (fun x s => s ++ [x]) (fun s => s) (fun suf s => s.length + suf.length ≤ 64)
    (fun n k i s => by
      show cond _ _ _ = _
      congr 1
      show (idx env.names i).bind _ = _
      congr 1
      funext x
      simp only [Option.bind_assoc])
    (fun x suf s hx hs => by
      simp only [List.length_cons] at hs
      refine ⟨?_, ?_⟩
      · refine Ev.bind (copyType_ev x.ty (valid_ok (valid_decl h hx).2.1).1) ?_
        rw [app_eq (by simp only [List.length_singleton]; omega) (by omega)]
        exact Ev.ret _
      · simp only [List.length_append, List.length_singleton]; omega) (s0 := ([] : List Decl)) (by simp only [List.length_nil]; omega)
  rw [foldl_snoc, List.nil_append] at h2
  exact Ev.bind h1 (Ev.bind h2 (Ev.ret _))
theorem CopyEnv_ev {env : Env} (h : validE env = true) : Ev (fun n => R2_CopyEnv n env) (env.carriers, env.names) := by
  obtain ⟨hc8, hn64, _, _, _⟩ := valid_parts h
  unfold R2_CopyEnv
  have h1 := loopFold (ρ := (List Carrier) × (List Decl)) env.carriers (fun n k i s => R2_CopyEnv_L1 n env k (i, s)) (fun n x s => (app 16 ([] : List Str) x.elems).bind fun x5 => app 40 s [Carrier.mk x.name x5]) (fun x s => s ++ [x]) (fun s => s) (fun suf s => s.length + suf.length ≤ 8)
    (fun n k i s => by
      show cond _ _ _ = _
      congr 1
      show (idx env.carriers i).bind _ = _
      congr 1
      funext x
      simp only [Option.bind_assoc])
    (fun x suf s hx hs => by
      simp only [List.length_cons] at hs
      have hx8 := (valid_car h hx).2.1
      refine ⟨?_, ?_⟩
      · rw [app_eq (by simp only [List.length_nil]; omega) (by omega), Option.bind_some, app_eq (by simp only [List.length_singleton]; omega) (by omega)]
        exact Ev.ret _
      · simp only [List.length_append, List.length_singleton]; omega) (s0 := ([] : List Carrier)) (by simp only [List.length_nil]; omega)
  rw [foldl_snoc, List.nil_append] at h1
  have h2 := loopFold (ρ := (List Carrier) × (List Decl)) env.names (fun n k i s => R2_CopyEnv_L0 n env k (i, s)) (fun n x s => (R1_CopyType n x.ty).bind fun x2 => app 64 s [Decl.mk x.name x2]) (fun x s => s ++ [x]) (fun s => s) (fun suf s => s.length + suf.length ≤ 64)
    (fun n k i s => by
      show cond _ _ _ = _
      congr 1
      show (idx env.names i).bind _ = _
      congr 1
      funext x
      simp only [Option.bind_assoc])
    (fun x suf s hx hs => by
      simp only [List.length_cons] at hs
      refine ⟨?_, ?_⟩
      · refine Ev.bind (CopyType_ev x.ty (valid_ok (valid_decl h hx).2.1).1) ?_
        rw [app_eq (by simp only [List.length_singleton]; omega) (by omega)]
        exact Ev.ret _
      · simp only [List.length_append, List.length_singleton]; omega) (s0 := ([] : List Decl)) (by simp only [List.length_nil]; omega)
  rw [foldl_snoc, List.nil_append] at h2
  exact Ev.bind h1 (Ev.bind h2 (Ev.ret _))

/-- The environment with a name more, or its error. -/
def withE (env : Env) (s : Str) (t : Ty) : Env × Int :=
  cond (!(validE env && (named s && (validT t && !(hasK 2 t))))) (Env.mk [] [], 1)
    (cond ((names2 env).any (· == s)) (Env.mk [] [], 8)
      (cond (!((carsT t).all (hasCar env))) (Env.mk [] [], 6)
        (cond (decide (64 ≤ (env.names.length : Int))) (Env.mk [] [], 5) (Env.mk env.carriers (env.names ++ [Decl.mk s t]), 0))))

theorem any_perm {l l' : List Str} (h : l.Perm l') (p : Str → Bool) : l.any p = l'.any p := by
  have : (l.any p = true) ↔ (l'.any p = true) := by simp only [List.any_eq_true, h.mem_iff]
  cases h1 : l.any p <;> cases h2 : l'.any p <;> simp_all
theorem Contains_ev (l : List Str) (s : Str) : Ev (fun n => slices_Contains_string n l s) (l.any (· == s)) := by
  unfold slices_Contains_string slices_Index_string
  have h := loopFind l (fun n k i => slices_Index_string_L0 n l s k i) (fun _ x => some (s == x)) (fun x => s == x) (fun n k i => rfl) (fun x _ => Ev.ret _)
  refine Ev.bind h ?_
  rw [findI_ge _ _ _ (Int.le_refl _)]
  simp only [BEq.comm (a := s)]
  exact Ev.ret _

theorem typing_With_ev (env : Env) (hs : ∀ d ∈ env.names, d.name.length ≤ 9223372036854775807) (s : Str) (hs2 : s.length ≤ 9223372036854775807) (t : Ty) : Ev (fun n => typing_With n env s t) (withE env s t) := by
  unfold typing_With
  refine Ev.bind (a := !(validE env && (named s && (validT t && !(hasK 2 t))))) (Ev.bind (typing_ValidEnv_ev env hs) ?_) ?_
  · cases validE env with
    | false => exact Ev.ret _
    | true =>
      simp only [Bool.not_true, cond_false, Bool.true_and]
      refine Ev.bind (nameable_ev s hs2) ?_
      cases named s with
      | false => exact Ev.ret _
      | true =>
        simp only [Bool.not_true, cond_false, Bool.true_and]
        refine Ev.bind (a := validT t && !(hasK 2 t)) ?_ (Ev.ret _)
        unfold typing_declarable
        refine Ev.bind (a := validT t && !(hasK 2 t)) (Ev.bind (term_ValidType_ev t) ?_) (Ev.ret _)
        cases validT t with
        | false => exact Ev.ret _
        | true => exact Ev.bind (contains_ev 2 t) (Ev.ret _)
  · unfold withE
    cases hv : (validE env && (named s && (validT t && !(hasK 2 t)))) with
    | false => exact Ev.ret _
    | true =>
      simp only [Bool.and_eq_true] at hv
      obtain ⟨he, _, ht, _⟩ := hv
      obtain ⟨hc8, hn64, hcb, _, _⟩ := valid_parts he
      have hlen := short_names (env := env) (by omega) (by omega) hcb
      have hlen1 : (names1 env).length ≤ 1000 := by rw [(names_perm env).length_eq]; exact hlen
      simp only [Bool.not_true, cond_false]
      refine Ev.bind (declared_ev env (by omega)) ?_
      refine Ev.bind (Contains_ev _ _) ?_
      rw [any_perm (names_perm env)]
      cases (names2 env).any (· == s) with
      | true => exact Ev.ret _
      | false =>
        simp only [cond_false]
        refine Ev.bind (mentions_ev env ht) ?_
        cases (carsT t).all (hasCar env) with
        | false => exact Ev.ret _
        | true =>
          simp only [Bool.not_true, cond_false]
          cases decide (64 ≤ (env.names.length : Int)) with
          | true => exact Ev.ret _
          | false =>
            simp only [cond_false]
            refine Ev.bind (copyEnv_ev he) ?_
            refine Ev.bind (copyType_ev t (valid_ok ht).1) ?_
            rw [app_eq (by simp only [List.length_singleton]; omega) (by omega)]
            exact Ev.ret _

theorem R2_With_ev (env : Env) (s : Str) (t : Ty) : Ev (fun n => R2_With n env s t) (withE env s t) := by
  unfold R2_With
  refine Ev.bind (a := !(validE env && (named s && (validT t && !(hasK 2 t))))) (Ev.bind (R2_ValidEnv_ev env) ?_) ?_
  · cases validE env with
    | false => exact Ev.ret _
    | true =>
      simp only [Bool.not_true, cond_false, Bool.true_and]
      refine Ev.bind (R1_Named_ev s) ?_
      cases named s with
      | false => exact Ev.ret _
      | true =>
        simp only [Bool.not_true, cond_false, Bool.true_and]
        refine Ev.bind (R1_ValidType_ev t) ?_
        cases validT t with
        | false => exact Ev.ret _
        | true =>
          simp only [Bool.not_true, cond_false, Bool.true_and, Bool.not_not]
          exact Ev.bind (holdsBool_ev t) (Ev.ret _)
  · unfold withE
    cases hv : (validE env && (named s && (validT t && !(hasK 2 t)))) with
    | false => exact Ev.ret _
    | true =>
      simp only [Bool.and_eq_true] at hv
      obtain ⟨he, _, ht, _⟩ := hv
      obtain ⟨hc8, hn64, hcb, _, _⟩ := valid_parts he
      have hlen := short_names (env := env) (by omega) (by omega) hcb
      simp only [Bool.not_true, cond_false]
      refine Ev.bind (AllNames_ev env (by omega)) ?_
      refine Ev.bind (R1_In_ev _ _) ?_
      cases (names2 env).any (· == s) with
      | true => exact Ev.ret _
      | false =>
        simp only [cond_false]
        refine Ev.bind (Knows_ev env ht) ?_
        cases (carsT t).all (hasCar env) with
        | false => exact Ev.ret _
        | true =>
          simp only [Bool.not_true, cond_false]
          cases decide (64 ≤ (env.names.length : Int)) with
          | true => exact Ev.ret _
          | false =>
            simp only [cond_false]
            refine Ev.bind (CopyEnv_ev he) ?_
            refine Ev.bind (CopyType_ev t (valid_ok ht).1) ?_
            rw [app_eq (by simp only [List.length_singleton]; omega) (by omega)]
            exact Ev.ret _

/-! ### Sameness of environments -/

theorem same_ev (l : List Str) : Ev (fun n => R2_same n l l) true := by
  unfold R2_same
  simp only [bne_self', cond_false]
  have h := loopStop l (fun n k i => R2_same_L0 n l l k i) (fun _ _ => some false) (fun _ => false) false
    (fun n k i => by
      show cond _ _ _ = _
      congr 1
      cases hx : idx l i with
      | none => rfl
      | some x => simp only [Option.bind_some, beq_self_eq_true, Bool.not_true])
    (fun x _ => Ev.ret _)
  rw [any_ff] at h
  exact Ev.bind h (Ev.ret _)
theorem SameEnv_ev (e : Env) : Ev (fun n => R2_SameEnv n e e) true := by
  unfold R2_SameEnv
  simp only [bne_self', cond_false, Option.bind_some]
  have h1 := loopStop e.carriers (fun n k i => R2_SameEnv_L1 n e e k i) (fun n x => (R2_SameCarrier n x x).bind fun b => some (!b)) (fun _ => false) false
    (fun n k i => by
      show cond _ _ _ = _
      congr 1
      cases hx : idx e.carriers i with
      | none => rfl
      | some x => simp only [Option.bind_some, Option.bind_assoc])
    (fun x _ => by
      refine Ev.bind (a := true) ?_ (Ev.ret _)
      unfold R2_SameCarrier
      simp only [beq_self_eq_true, cond_true]
      exact Ev.bind (Ev.bind (same_ev _) (Ev.ret _)) (Ev.ret _))
  rw [any_ff] at h1
  have h2 := loopStop e.names (fun n k i => R2_SameEnv_L0 n e e k i) (fun n x => (R1_SameType n x.ty x.ty).bind fun b => some (!b)) (fun _ => false) false
    (fun n k i => by
      show cond _ _ _ = _
      congr 1
      cases hx : idx e.names i with
      | none => rfl
      | some x => simp only [Option.bind_some, Option.bind_assoc, beq_self_eq_true, Bool.not_true, cond_false])
    (fun x _ => Ev.bind (SameType_ev x.ty) (Ev.ret _))
  rw [any_ff] at h2
  exact Ev.bind h1 (Ev.bind h2 (Ev.ret _))

/-! ### The law -/

def smallB (env : Env) : Bool := !(decide (200 < (env.carriers.length : Int)) || decide (200 < (env.names.length : Int))) && !(env.carriers.any fun c => decide (200 < (c.elems.length : Int)))
theorem small_ev (env : Env) : Ev (fun n => L2_small n env) (smallB env) := by
  unfold L2_small smallB
  have h := loopStop env.carriers (fun n k i => L2_small_L0 n env k i) (fun _ x => some (decide (200 < (x.elems.length : Int)))) (fun x => decide (200 < (x.elems.length : Int))) false (fun n k i => rfl) (fun x _ => Ev.ret _)
  cases decide (200 < (env.carriers.length : Int)) with
  | true => exact Ev.ret _
  | false =>
    cases decide (200 < (env.names.length : Int)) with
    | true => exact Ev.ret _
    | false =>
      simp only [cond_false, Option.bind_some, Bool.or_false, Bool.not_false, Bool.true_and]
      refine Ev.bind h ?_
      cases env.carriers.any fun c => decide (200 < (c.elems.length : Int))
      · exact Ev.ret _
      · exact Ev.ret _

theorem law_TypingEnvs (env : Env) (s : Str) (t : Ty) (hs : ∀ d ∈ env.names, d.name.length ≤ 9223372036854775807) (hs2 : s.length ≤ 9223372036854775807) : Ev (fun n => L2_TypingEnvs n env s t) true := by
  unfold L2_TypingEnvs L2_awake
  refine Ev.bind (small_ev env) ?_
  cases smallB env with
  | false => exact Ev.ret _
  | true =>
    simp only [Bool.not_true, cond_false]
    refine Ev.bind (typing_Lookup_ev env hs s) ?_
    refine Ev.bind (R2_Lookup_ev env s) ?_
    refine Ev.bind (typing_With_ev env hs s hs2 t) ?_
    refine Ev.bind (R2_With_ev env s t) ?_
    refine Ev.bind (a := true) ?_ (Ev.ret _)
    refine Ev.bind (typing_ValidEnv_ev env hs) ?_
    refine Ev.bind (R2_ValidEnv_ev env) ?_
    simp only [beq_self_eq_true, cond_true]
    refine Ev.bind (SameType_ev _) ?_
    simp only [cond_true]
    refine Ev.bind (SameEnv_ev _) ?_
    exact Ev.ret _
end Abs
end Go.Proofs.YtiiaccpcoclklaaGreat

/-
  Universes of types; the law TypingTypesOfTypes of plain data. Conditions: names are no longer than a string may be; lemmas without a program.
-/
import Derived.Test.YtiiaccpcoclklaaGreatCP10xa596f4
set_option linter.unusedSimpArgs false
set_option linter.unusedVariables false
namespace Go.Proofs.YtiiaccpcoclklaaGreat
namespace Abs
open Go
def sameE (a b : Ty) : Bool := validT a && (validT b && tyEq a b)
theorem typing_SameType_ev (a b : Ty) : Ev (fun n => typing_SameType n a b) (sameE a b) := by
 unfold typing_SameType sameE
 refine Ev.bind (a := validT a && (validT b && tyEq a b)) (Ev.bind (term_ValidType_ev a) ?_) (Ev.ret _)
 cases validT a with
 | false => exact Ev.ret _
 | true =>
  simp only [cond_true, Bool.true_and]
  refine Ev.bind (term_ValidType_ev b) ?_
  cases validT b with
  | false => exact Ev.ret _
  | true => exact Ev.bind (equal_ev a b) (Ev.ret _)
theorem R2_SameType_ev (a b : Ty) : Ev (fun n => R2_SameType n a b) (sameE a b) := by
 unfold R2_SameType sameE
 refine Ev.bind (a := validT a && (validT b && tyEq a b)) (Ev.bind (R1_ValidType_ev a) ?_) (Ev.ret _)
 cases validT a with
 | false => exact Ev.ret _
 | true =>
  simp only [cond_true, Bool.true_and]
  refine Ev.bind (R1_ValidType_ev b) ?_
  cases validT b with
  | false => exact Ev.ret _
  | true => exact Ev.bind (SameType2_ev a b) (Ev.ret _)
def carE (a : Ty) : List Str := cond (validT a) (sortS (carsT a)) []
theorem typing_Carriers_ev2 (a : Ty) : Ev (fun n => typing_Carriers n a) (carE a) := by
 unfold carE
 cases h : validT a with
 | true =>
  have := typing_Carriers_ev h
  rw [carriers_eq] at this
  exact this
 | false =>
  unfold typing_Carriers
  refine Ev.bind (term_ValidType_ev a) ?_
  rw [h]
  exact Ev.ret _
theorem R2_Carriers_ev (a : Ty) : Ev (fun n => R2_Carriers n a) (carE a) := by
 unfold R2_Carriers carE
 refine Ev.bind (R1_ValidType_ev a) ?_
 cases h : validT a with
 | false => exact Ev.ret _
 | true =>
  obtain ⟨h1, h2⟩ := valid_ok h
  simp only [Bool.not_true, cond_false, cond_true]
  refine Ev.bind (R2_carriers_ev a h1 h2) ?_
  exact Ev.bind (Sorted_ev _ (by omega)) (Ev.ret _)
mutual
def uniT : Ty → Tm
 | .mk k nm ks => cond (k == 4) (nodeT 34 (uniTs ks)) (cond (k == 5) (nodeT 46 (uniTs ks)) (.mk 20 nm 0 tyZero []))
def uniTs : List Ty → List Tm
 | [] => []
 | t :: ts => uniT t :: uniTs ts
end
theorem typing_universe_ev {t : Ty} (h : Good t) : Ev (fun n => typing_universe n t) (uniT t) := by
 induction h with
 | int => exact Ev.succ (Ev.ret _)
 | car nm => exact Ev.succ (Ev.ret _)
 | pair _ _ h1 h2 =>
  refine Ev.succ ?_
  show Ev (fun n => (typing_universe n _).bind fun x2 => (typing_universe n _).bind fun x4 => some (Tm.mk 34 [] 0 (Ty.mk 0 [] []) [x2, x4])) _
  refine Ev.bind h1 ?_
  exact Ev.bind h2 (Ev.ret _)
 | set _ h1 =>
  refine Ev.succ ?_
  exact Ev.bind (f := fun n => typing_universe n _) h1 (Ev.ret _)
theorem R2_universe_ev {t : Ty} (h : Good t) : Ev (fun n => R2_universe n t) (uniT t) := by
 induction h with
 | int => exact Ev.succ (Ev.ret _)
 | car nm => exact Ev.succ (Ev.ret _)
 | pair _ _ h1 h2 =>
  refine Ev.succ ?_
  show Ev (fun n => (R2_universe n _).bind fun x2 => (R2_universe n _).bind fun x4 => some (Tm.mk 34 [] 0 (Ty.mk 0 [] []) [x2, x4])) _
  refine Ev.bind h1 ?_
  exact Ev.bind h2 (Ev.ret _)
 | set _ h1 =>
  refine Ev.succ ?_
  exact Ev.bind (f := fun n => R2_universe n _) h1 (Ev.ret _)
theorem holdsInt_ev : ∀ t : Ty, Ev (fun n => R2_holdsInt n t) (hasK 1 t) := Ty.ind fun k nm ks ih => by
 refine Ev.succ ?_
 show Ev (fun n => R2_holdsInt_body n _ (.mk k nm ks)) _
 unfold R2_holdsInt_body
 simp only [Ty.kind, hasK, hasKs_any]
 cases hq : (k == 1)
 ·have h := loopStop ks (fun n k' i => R2_holdsInt_L0 n (fun p0 => R2_holdsInt n p0) (.mk k nm ks) k' i) (fun n x => R2_holdsInt n x) (hasK 1) true (fun n k i => rfl) ih
  simp only [cond_false, Bool.false_or]
  refine Ev.bind h ?_
  cases ks.any (hasK 1)
  ·exact Ev.ret _
  ·exact Ev.ret _
 ·exact Ev.ret _
def uniB (env : Env) (a : Ty) : Bool := validE env && ((validT a && !(hasK 2 a)) && (!(hasK 1 a) && knows env a))
def uniE (env : Env) (a : Ty) : Tm × Bool := cond (uniB env a) (uniT a, true) (tm0, false)
theorem uniB_good {env : Env} {a : Ty} (h : uniB env a = true) : validE env = true ∧ validT a = true ∧ Good a ∧ hasK 1 a = false ∧ knows env a = true := by
 simp only [uniB, Bool.and_eq_true, Bool.not_eq_true'] at h
 exact ⟨h.1, h.2.1.1, validT_good h.2.1.1 h.2.1.2, h.2.2.1, h.2.2.2⟩
theorem declarable_ev (a : Ty) : Ev (fun n => typing_declarable n a) (validT a && !(hasK 2 a)) := by
 unfold typing_declarable
 refine Ev.bind (a := validT a && !(hasK 2 a)) (Ev.bind (term_ValidType_ev a) ?_) (Ev.ret _)
 cases validT a with
 | false => exact Ev.ret _
 | true => exact Ev.bind (contains_ev 2 a) (Ev.ret _)
theorem typing_Universe_ev (env : Env) (a : Ty) (hs : ShortE env) : Ev (fun n => typing_Universe n env a) (uniE env a) := by
 unfold typing_Universe
 refine Ev.bind (a := !(uniB env a)) ?_ ?_
 ·unfold uniB
  refine Ev.bind (typing_ValidEnv_ev env hs) ?_
  cases validE env with
  | false => exact Ev.ret _
  | true =>
   simp only [Bool.not_true, cond_false, Bool.true_and]
   refine Ev.bind (declarable_ev a) ?_
   cases hd : (validT a && !(hasK 2 a)) with
   | false => exact Ev.ret _
   | true =>
    simp only [Bool.and_eq_true] at hd
    simp only [Bool.not_true, cond_false, Bool.true_and]
    refine Ev.bind (contains_ev 1 a) ?_
    cases hasK 1 a with
    | true => exact Ev.ret _
    | false => exact Ev.bind (mentions_ev env hd.1) (Ev.ret _)
 ·unfold uniE
  cases hb : uniB env a with
  | false => exact Ev.ret _
  | true => exact Ev.bind (typing_universe_ev (uniB_good hb).2.2.1) (Ev.ret _)
theorem R2_Universe_ev (env : Env) (a : Ty) : Ev (fun n => R2_Universe n env a) (uniE env a) := by
 unfold R2_Universe
 refine Ev.bind (a := !(uniB env a)) ?_ ?_
 ·unfold uniB
  refine Ev.bind (R2_ValidEnv_ev env) ?_
  cases validE env with
  | false => exact Ev.ret _
  | true =>
   simp only [Bool.not_true, cond_false, Bool.true_and]
   refine Ev.bind (R1_ValidType_ev a) ?_
   cases hd : validT a with
   | false => exact Ev.ret _
   | true =>
    simp only [Bool.not_true, cond_false, Bool.true_and]
    refine Ev.bind (holdsBool_ev a) ?_
    cases hasK 2 a with
    | true => exact Ev.ret _
    | false =>
     simp only [cond_false, Bool.not_false, Bool.true_and]
     refine Ev.bind (holdsInt_ev a) ?_
     cases hasK 1 a with
     | true => exact Ev.ret _
     | false => exact Ev.bind (Knows_ev env hd) (Ev.ret _)
 ·unfold uniE
  cases hb : uniB env a with
  | false => exact Ev.ret _
  | true => exact Ev.bind (R2_universe_ev (uniB_good hb).2.2.1) (Ev.ret _)
theorem named_ident {s : Str} (h : ident s = true) : named s = true := by
 unfold named
 have : unprime s = s := by
  unfold unprime
  rw [if_neg]
  intro hl
  have hm := List.mem_of_getLast? hl
  have := ident_word h 39 hm
  revert this
  decide
 rw [this]
 exact h
theorem ident_short {s : Str} (h : ident s = true) : s.length ≤ 9223372036854775807 := by
 unfold ident at h
 split at h
 ·simp
 ·simp only [Bool.and_eq_true, decide_eq_true_eq] at h
  simp only [List.length_cons]
  omega
mutual
theorem pf_uni : ∀ (t : Ty) (d c : Int), (pf t d c).1 = true → hasK 1 t = false → hasK 2 t = false → (mf (uniT t) d c).1 = true ∧ (mf (uniT t) d c).2 = (pf t d c).2 ∧ tmS (uniT t)
 | .mk k nm ks, d, c, h, h1, h2 => by
  simp only [pf] at h ⊢
  cases hb : ((decide (c + 1 ≤ 16) && decide (d ≤ 6)) && headT k nm ks.length d) with
  | false => rw [hb] at h; cases h
  | true =>
   rw [hb] at h
   simp only [cond_true] at h ⊢
   simp only [hasK, Bool.or_eq_false_iff] at h1 h2
   obtain ⟨i1, i2, i3⟩ := pfs_uni ks (d + 1) (c + 1) h h1.2 h2.2
   simp only [Bool.and_eq_true, decide_eq_true_eq] at hb
   obtain ⟨⟨hc, hd⟩, hh⟩ := hb
   have hc' : decide (c + 1 ≤ 2000) = true := decide_eq_true (by omega)
   have hd' : decide (d ≤ 64) = true := decide_eq_true (by omega)
   simp only [headT, Bool.and_eq_true, Bool.or_eq_true, beq_iff_eq, Bool.not_eq_true'] at hh
   obtain ⟨_, h3, h4⟩ := hh
   simp only [uniT]
   rcases h3 with ⟨h5, h6⟩ | ⟨h5, h6⟩ | ⟨h5, h6⟩
   ·-- a carrier
    have k3 : k = 3 := by
     rcases h5 with e | e | e
     ·subst e; exact absurd h1.1 (by decide)
     ·subst e; exact absurd h2.1 (by decide)
     ·exact e
    subst k3
    have hid : ident nm = true := h4
    have hks : ks = [] := List.length_eq_zero_iff.1 h6
    subst hks
    have hn : nodeB (.mk 20 nm 0 tyZero []) = true := by
     show (true && (named nm && (true && true))) = true
     rw [named_ident hid]
     rfl
    show (mf (.mk 20 nm 0 tyZero []) d c).1 = true ∧ (mf (.mk 20 nm 0 tyZero []) d c).2 = _ ∧ _
    simp only [mf, hc', hd', hn, Bool.and_self, cond_true, mfs, pfs]
    refine ⟨trivial, trivial, ?_⟩
    show tmS (.mk 20 nm 0 tyZero [])
    simp only [tmS, tmsS]
    exact ⟨ident_short hid, trivial⟩
   ·subst h5
    match ks, h6, i1, i2, i3 with
    | [a, b], _, i1, i2, i3 =>
     have hn : nodeB (nodeT 34 (uniTs [a, b])) = true := rfl
     show (mf (nodeT 34 (uniTs [a, b])) d c).1 = true ∧ (mf (nodeT 34 (uniTs [a, b])) d c).2 = _ ∧ tmS (nodeT 34 (uniTs [a, b]))
     have e : mf (nodeT 34 (uniTs [a, b])) d c = mfs (uniTs [a, b]) (d + 1) (c + 1) := by
      show mf (.mk 34 [] 0 tyZero (uniTs [a, b])) d c = _
      simp only [mf, hc', hd', show nodeB (.mk 34 [] 0 tyZero (uniTs [a, b])) = true from rfl, Bool.and_self, cond_true]
     rw [e]
     exact ⟨i1, i2, tmS_node i3⟩
   ·subst h5
    match ks, h6, i1, i2, i3 with
    | [a], _, i1, i2, i3 =>
     show (mf (nodeT 46 (uniTs [a])) d c).1 = true ∧ (mf (nodeT 46 (uniTs [a])) d c).2 = _ ∧ tmS (nodeT 46 (uniTs [a]))
     have e : mf (nodeT 46 (uniTs [a])) d c = mfs (uniTs [a]) (d + 1) (c + 1) := by
      show mf (.mk 46 [] 0 tyZero (uniTs [a])) d c = _
      simp only [mf, hc', hd', show nodeB (.mk 46 [] 0 tyZero (uniTs [a])) = true from rfl, Bool.and_self, cond_true]
     rw [e]
     exact ⟨i1, i2, tmS_node i3⟩
theorem pfs_uni : ∀ (ts : List Ty) (d c : Int), (pfs ts d c).1 = true → hasKs 1 ts = false → hasKs 2 ts = false → (mfs (uniTs ts) d c).1 = true ∧ (mfs (uniTs ts) d c).2 = (pfs ts d c).2 ∧ ∀ t ∈ uniTs ts, tmS t
 | [], d, c, _, _, _ => ⟨rfl, rfl, fun t ht => by cases ht⟩
 | t :: ts, d, c, h, h1, h2 => by
  simp only [pfs] at h ⊢
  simp only [hasKs, Bool.or_eq_false_iff] at h1 h2
  cases hb : (pf t d c).1 with
  | false => rw [hb] at h; cases h
  | true =>
   rw [hb] at h
   simp only [cond_true] at h ⊢
   obtain ⟨i1, i2, i3⟩ := pf_uni t d c hb h1.1 h2.1
   obtain ⟨j1, j2, j3⟩ := pfs_uni ts d _ h h1.2 h2.2
   simp only [uniTs, mfs, i1, cond_true, i2]
   refine ⟨j1, j2, fun u hu => ?_⟩
   rcases List.mem_cons.1 hu with rfl | hu
   ·exact i3
   ·exact j3 u hu
end
mutual
theorem pf_mono : ∀ (t : Ty) (d c d' c' : Int), (pf t d c).1 = true → d' ≤ d → c' ≤ c → (pf t d' c').1 = true ∧ (pf t d' c').2 - c' = (pf t d c).2 - c
 | .mk k nm ks, d, c, d', c', h, hd, hc => by
  simp only [pf] at h ⊢
  cases hb : ((decide (c + 1 ≤ 16) && decide (d ≤ 6)) && headT k nm ks.length d) with
  | false => rw [hb] at h; cases h
  | true =>
   rw [hb] at h
   simp only [Bool.and_eq_true, decide_eq_true_eq] at hb
   have hh : headT k nm ks.length d' = true := by
    have h2 := hb.2
    simp only [headT, Bool.and_eq_true, Bool.not_eq_true', Bool.and_eq_false_iff, decide_eq_false_iff_not, beq_eq_false_iff_ne] at h2 ⊢
    refine ⟨?_, h2.2⟩
    rcases h2.1 with h2 | h2
    ·exact .inl h2
    ·exact .inr (by omega)
   rw [decide_eq_true (show c' + 1 ≤ 16 by omega), decide_eq_true (show d' ≤ 6 by omega), hh]
   simp only [Bool.and_self, cond_true] at h ⊢
   have := pfs_mono ks (d + 1) (c + 1) (d' + 1) (c' + 1) h (by omega) (by omega)
   exact ⟨this.1, by omega⟩
theorem pfs_mono : ∀ (ts : List Ty) (d c d' c' : Int), (pfs ts d c).1 = true → d' ≤ d → c' ≤ c → (pfs ts d' c').1 = true ∧ (pfs ts d' c').2 - c' = (pfs ts d c).2 - c
 | [], _, _, _, _, _, _, _ => by simp only [pfs]; exact ⟨trivial, by omega⟩
 | t :: ts, d, c, d', c', h, hd, hc => by
  simp only [pfs] at h ⊢
  cases hb : (pf t d c).1 with
  | false => rw [hb] at h; cases h
  | true =>
   rw [hb] at h
   simp only [cond_true] at h ⊢
   have h1 := pf_mono t d c d' c' hb hd hc
   rw [h1.1]
   simp only [cond_true]
   have h2 := pfs_mono ts d _ d' (pf t d' c').2 h hd (by omega)
   exact ⟨h2.1, by omega⟩
end
theorem set_valid {t : Ty} {d c : Int} (h : (pf t d c).1 = true) (hd : 2 ≤ d) (hc : 1 ≤ c) : validT (tySet t) = true := by
 have h1 := (pf_mono t d c 2 1 h hd hc).1
 unfold validT
 show (pf (.mk 5 [] [t]) 1 0).1 = true
 simp only [pf, pfs]
 show (cond _ _ _ : Bool × Int).1 = true
 simp only [show ((decide ((0 : Int) + 1 ≤ 16) && decide ((1 : Int) ≤ 6)) && headT 5 [] [t].length 1) = true from rfl, cond_true]
 have e1 : (1 : Int) + 1 = 2 := rfl
 have e0 : (0 : Int) + 1 = 1 := rfl
 rw [e1, e0, h1]
 rfl
theorem look_car {env : Env} (hv : validE env = true) {nm : Str} (h : hasCar env nm = true) : look env nm = some (tySet (tyC nm)) := by
 rw [look_mem hv]
 unfold hasCar at h
 rw [List.any_eq_true] at h
 obtain ⟨c, hc, e⟩ := h
 have e : c.name = nm := by simpa using e
 subst e
 unfold assoc1
 exact List.mem_append_left _ (List.mem_flatMap.2 ⟨c, hc, List.mem_cons_self ..⟩)
theorem uni_ty {env : Env} (hv : validE env = true) : ∀ {t : Ty}, Good t → ∀ d c : Int, 1 ≤ d → 0 ≤ c → (pf t d c).1 = true → hasK 1 t = false → (carsT t).all (hasCar env) = true → tyOf env [] (uniT t) = finT (some (tySet t)) := by
 intro t hg
 induction hg with
 | int => intro d c _ _ _ h1; cases h1
 | car nm =>
  intro d c hd hc hp _ hk
  have hcar : hasCar env nm = true := by
   simp only [tyC, carsT, show ((3 : Int) == 3) = true from rfl, cond_true, List.all_cons, List.all_nil, Bool.and_true] at hk
   exact hk
  show tyOf env [] (.mk 20 nm 0 tyZero []) = _
  simp only [tyOf, show ((20 : Int) == 20) = true from rfl, cond_true, lookS, List.find?_nil, look_car hv hcar, finT]
  have : validT (tySet (tyC nm)) = true := by
   have h1 := (pf_mono _ d c 1 0 hp hd hc).1
   unfold validT
   have hid : ident nm = true := by
    simp only [tyC, pf] at h1
    cases hb : ((decide ((0 : Int) + 1 ≤ 16) && decide ((1 : Int) ≤ 6)) && headT 3 nm ([] : List Ty).length 1) with
    | false => rw [hb] at h1; cases h1
    | true =>
     simp only [Bool.and_eq_true, headT] at hb
     exact hb.2.2.2
   show (pf (.mk 5 [] [.mk 3 nm []]) 1 0).1 = true
   simp only [pf, pfs]
   have hh : headT 3 nm ([] : List Ty).length (1 + 1) = true := by
    show (true && (true && ident nm)) = true
    rw [hid]
    rfl
   simp only [show ((decide ((0 : Int) + 1 ≤ 16) && decide ((1 : Int) ≤ 6)) && headT 5 [] [Ty.mk 3 nm []].length 1) = true from rfl, hh, cond_true]
   rfl
  rw [this]
  rfl
 | @pair a b _ _ ha hb =>
  intro d c hd hc hp h1 hk
  have hp' : (pf (.mk 4 [] [a, b]) d c).1 = true := hp
  simp only [pf] at hp'
  cases hcond : ((decide (c + 1 ≤ 16) && decide (d ≤ 6)) && headT 4 [] [a, b].length d) with
  | false => rw [hcond] at hp'; cases hp'
  | true =>
   rw [hcond] at hp'
   simp only [cond_true, pfs] at hp'
   cases hpa : (pf a (d + 1) (c + 1)).1 with
   | false => rw [hpa] at hp'; cases hp'
   | true =>
    rw [hpa] at hp'
    simp only [cond_true] at hp'
    have hle := pf_le a (d + 1) (c + 1) hpa
    cases hpb : (pf b (d + 1) (pf a (d + 1) (c + 1)).2).1 with
    | false => rw [hpb] at hp'; cases hp'
    | true =>
     simp only [tyPair, hasK, hasKs, Bool.or_eq_false_iff] at h1
     simp only [tyPair, carsT, carsTs, show ((4 : Int) == 3) = false from rfl, cond_false, List.all_append, List.append_nil, Bool.and_eq_true] at hk
     have ka := ha (d + 1) (c + 1) (by omega) (by omega) hpa h1.2.1 hk.1
     have kb := hb (d + 1) _ (by omega) (by omega) hpb h1.2.2.1 hk.2
     have va := set_valid hpa (by omega) (by omega)
     have vb := set_valid hpb (by omega) (by omega)
     simp only [finT, va, cond_true] at ka
     simp only [finT, vb, cond_true] at kb
     show tyOf env [] (.mk 34 [] 0 tyZero [uniT a, uniT b]) = _
     simp only [tyOf, tyKs, show ((34 : Int) == 20) = false from rfl, show ((34 : Int) == 29) = false from rfl, show bindB 34 = false from rfl, Bool.false_and, cond_false, ka, kb, bindS]
     rfl
 | @set a _ ha =>
  intro d c hd hc hp h1 hk
  have hp' : (pf (.mk 5 [] [a]) d c).1 = true := hp
  simp only [pf] at hp'
  cases hcond : ((decide (c + 1 ≤ 16) && decide (d ≤ 6)) && headT 5 [] [a].length d) with
  | false => rw [hcond] at hp'; cases hp'
  | true =>
   rw [hcond] at hp'
   simp only [cond_true, pfs] at hp'
   cases hpa : (pf a (d + 1) (c + 1)).1 with
   | false => rw [hpa] at hp'; cases hp'
   | true =>
    simp only [tySet, hasK, hasKs, Bool.or_eq_false_iff] at h1
    simp only [tySet, carsT, carsTs, show ((5 : Int) == 3) = false from rfl, cond_false, List.append_nil] at hk
    have ka := ha (d + 1) (c + 1) (by omega) (by omega) hpa h1.2.1 hk
    have va := set_valid hpa (by omega) (by omega)
    simp only [finT, va, cond_true] at ka
    show tyOf env [] (.mk 46 [] 0 tyZero [uniT a]) = _
    simp only [tyOf, tyKs, show ((46 : Int) == 20) = false from rfl, show ((46 : Int) == 29) = false from rfl, show bindB 46 = false from rfl, Bool.false_and, cond_false, ka, bindS]
    rfl
theorem law_TypingTypesOfTypes (env : Env) (a b : Ty) (hs : ShortE env) : Ev (fun n => L2_TypingTypesOfTypes n env a b) true := by
 unfold L2_TypingTypesOfTypes L2_awake
 refine Ev.bind (a := !(smallB env)) ?_ ?_
 ·refine Ev.bind (small_ev env) ?_
  cases smallB env with
  | false => exact Ev.ret _
  | true =>
   simp only [Bool.not_true, cond_false]
   refine Ev.bind (typing_SameType_ev a b) ?_
   refine Ev.bind (R2_SameType_ev a b) ?_
   simp only [beq_self_eq_true, Bool.not_true, cond_false]
   refine Ev.bind (typing_SameType_ev a a) ?_
   unfold sameE
   cases h : validT a with
   | true => simp only [Bool.true_and, tyEq_refl, Bool.not_true, cond_false]; exact Ev.ret _
   | false =>
    simp only [Bool.false_and, Bool.not_false, cond_true]
    refine Ev.bind (R1_ValidType_ev a) ?_
    rw [h]
    exact Ev.ret _
 cases hsm : smallB env with
 | false =>
  simp only [Bool.not_false, cond_true]
  refine Ev.bind (a := true) (Ev.bind (small_ev env) ?_) (Ev.ret _)
  rw [hsm]
  exact Ev.ret _
 | true =>
  simp only [Bool.not_true, cond_false]
  refine Ev.bind (typing_Universe_ev env a hs) ?_
  refine Ev.bind (R2_Universe_ev env a) ?_
  refine Ev.bind (typing_Carriers_ev2 a) ?_
  refine Ev.bind (R2_Carriers_ev a) ?_
  refine Ev.bind (a := false) ?_ ?_
  ·simp only [beq_self_eq_true, Bool.not_true, cond_false]
   refine Ev.bind (SameTerm_ev _) ?_
   simp only [Bool.not_true, cond_false]
   unfold R2_SameStrings
   exact Ev.bind (Ev.bind (same_ev _) (Ev.ret _)) (Ev.ret _)
  ·simp only [cond_false]
   unfold uniE
   cases hb : uniB env a with
   | false => exact Ev.ret _
   | true =>
    simp only [cond_true, Bool.not_true, cond_false]
    obtain ⟨hv, hva, hg, h1, hk⟩ := uniB_good hb
    have h2 : hasK 2 a = false := by
     simp only [uniB, Bool.and_eq_true, Bool.not_eq_true'] at hb
     exact hb.2.1.2
    obtain ⟨m1, _, m3⟩ := pf_uni a 1 0 hva h1 h2
    have hvm : validM (uniT a) = true := m1
    refine Ev.bind (typing_TypeOf_ev env (uniT a) hs m3) ?_
    have ht := uni_ty hv hg 1 0 (by omega) (by omega) hva h1 hk
    have hte : typeE0 env (uniT a) = resR (finT (some (tySet a))) := by
     unfold typeE0
     rw [hv, hvm, ht]
     rfl
    rw [hte]
    unfold finT
    cases hvs : validT (tySet a) with
    | true =>
     simp only [hvs, cond_true, resR, show ((0 : Int) != 0) = false from rfl, cond_false]
     refine Ev.bind (a := true) (Ev.bind (SameType_ev (tySet a)) ?_) (Ev.ret _)
     exact Ev.ret _
    | false =>
     simp only [hvs, cond_false, resR, show ((5 : Int) != 0) = true from rfl, cond_true, show ((5 : Int) == 5) = true from rfl]
     refine Ev.bind (a := true) (Ev.bind (R1_ValidType_ev (tySet a)) ?_) (Ev.ret _)
     rw [hvs]
     exact Ev.ret _
end Abs
end Go.Proofs.YtiiaccpcoclklaaGreat

/-
  The document's types; TypeOf, Predicate and Expression; the laws TypingTypes and TypingSorts of plain data. Conditions: names are no longer than a string may be; lemmas without a program. TypeOf, Predicate and Expression; the laws TypingTypes and TypingSorts of plain data. Conditions: names are no longer than a string may be; lemmas without a program.
-/
import Derived.Test.YtiiaccpcoclklaaGreatCP10x1a991c
set_option linter.unusedSimpArgs false
set_option linter.unusedVariables false
namespace Go.Proofs.YtiiaccpcoclklaaGreat
namespace Abs
open Go
theorem denotes_ev (env : Env) (sc : List Decl) (s : Str) : Ev (fun n => R2_denotes n env sc.reverse s) (match lookS env sc s with | some t => (t, true) | none => (tyZero, false)) := by
 have key : ∀ (sc post : List Decl) (n k : Nat), sc.length + 1 ≤ k → R2_denotes_L0 n (sc.reverse ++ post) s k ((sc.length : Int) - 1) = some (match sc.find? (fun d => d.name == s) with | some d => .rt (d.ty, true) | none => .nx ()) := by
  intro sc
  induction sc with
  | nil =>
   intro post n k hk
   cases k with
   | zero => simp at hk
   | succ k => rfl
  | cons d sc ih =>
   intro post n k hk
   cases k with
   | zero => simp at hk
   | succ k =>
    have e : (((d :: sc).length : Int) - 1) = (sc.reverse.length : Int) := by simp
    have e2 : (d :: sc).reverse ++ post = sc.reverse ++ d :: post := by simp
    rw [e, e2]
    show cond (decide ((0 : Int) ≤ (sc.reverse.length : Int))) ((idx (sc.reverse ++ d :: post) (sc.reverse.length : Int)).bind _) _ = _
    rw [decide_eq_true (by omega), idx_at]
    simp only [cond_true, Option.bind_some, List.find?_cons]
    cases hd : d.name == s with
    | true => rfl
    | false =>
     simp only [cond_false]
     have := ih (d :: post) n k (by simp at hk; omega)
     rw [List.length_reverse]
     exact this
 unfold R2_denotes
 have h1 : Ev (fun n => R2_denotes_L0 n sc.reverse s n ((sc.reverse.length : Int) - 1)) (match sc.find? (fun d => d.name == s) with | some d => .rt (d.ty, true) | none => .nx ()) := ⟨sc.length + 1, fun n hn => by
  have := key sc [] n n hn
  rw [List.append_nil] at this
  rw [List.length_reverse]
  exact this⟩
 refine Ev.bind h1 ?_
 unfold lookS
 cases sc.find? (fun d => d.name == s) with
 | some d => exact Ev.ret _
 | none => exact denotes_env_ev env s
def resR (r : TR) : Ty × List Int × Int := match r with | .ok t => (t, [], 0) | .er e p => (tyZero, p, e)
def TypeE (env : Env) (t : Tm) : Prop := ∀ (d : Int) (sc : List Decl), Wf d t → GoodS sc → (sc.length : Int) < d → Ev (fun n => R2_typeOf n env sc.reverse t) (resR (tyOf env sc t))
def scR (op : Int) (nm : Str) (sc : List Decl) (i : Int) (l : List Ty) : Option (List Decl) := bindS (bindB op && i == 1) nm (l.headD tyZero) sc
def stR (env : Env) (op : Int) (nm : Str) (sc : List Decl) (i : Int) (x : Tm) (l : List Ty) : LR (List Ty) (Ty × List Int × Int) := match scR op nm sc i l with
 | none => .rt (tyZero, [], 7)
 | some sc' => match tyOf env sc' x with
  | .er e p => .rt (tyZero, i :: p, e)
  | .ok ty => .nx (l ++ [ty])
def resK (acc : List Ty) (r : KR) : LR (List Ty) (Ty × List Int × Int) := match r with | .ok l => .nx (acc ++ l) | .er e p => .rt (tyZero, p, e)
theorem stR_run0 (env : Env) (op : Int) (hb : bindB op = false) (nm : Str) (sc : List Decl) : ∀ (ts : List Tm) (i : Int) (acc : List Ty), runI (stR env op nm sc) (fun s => s) i ts acc = resK acc (tyKs env sc false nm i ts)
 | [], i, acc => by simp [runI, tyKs, resK]
 | t :: ts, i, acc => by
  simp only [runI, stR, scR, hb, Bool.false_and, tyKs]
  simp only [bindS, cond_false]
  cases tyOf env sc t with
  | er e p => rfl
  | ok ty =>
   simp only
   rw [stR_run0 env op hb nm sc ts (i + 1) (acc ++ [ty])]
   cases tyKs env sc false nm (i + 1) ts with
   | er e p => rfl
   | ok l => simp [resK]
theorem stR_run1 (env : Env) (op : Int) (hb : bindB op = true) (nm : Str) (sc : List Decl) (x y : Tm) : runI (stR env op nm sc) (fun s => s) 0 [x, y] [] = resK [] (tyKs env sc true nm 0 [x, y]) := by
 simp only [runI, stR, scR, hb, Bool.true_and, tyKs]
 simp only [show ((0 : Int) == 1) = false from rfl, show ((0 : Int) + 1 == 1) = true from rfl]
 simp only [bindS, cond_false, cond_true]
 cases tyOf env sc x with
 | er e p => rfl
 | ok ty =>
  simp only [List.nil_append, List.headD_cons]
  cases (setO ty).map fun e => (⟨nm, e⟩ :: sc : List Decl) with
  | none => rfl
  | some sc' =>
   simp only
   cases tyOf env sc' y with
   | er e p => rfl
   | ok u => rfl
theorem typeE {env : Env} (hv : validE env = true) : ∀ t : Tm, TypeE env t := Tm.ind fun op nm m ty ks ih d sc hw hs hp => by
 obtain ⟨hnode, hd, hks, hkw⟩ := hw.node
 obtain ⟨hop, h20k, h29k, hlen, hbk⟩ := node_kids hnode
 refine Ev.succ ?_
 show Ev (fun n => R2_typeOf_body n (fun p0 p1 p2 => R2_typeOf n p0 p1 p2) env sc.reverse (.mk op nm m ty ks)) _
 unfold R2_typeOf_body
 simp only [Tm.op, Tm.name, Tm.ty, tyOf]
 cases h20 : (op == 20) with
 | true =>
  simp only [cond_true]
  refine Ev.bind (denotes_ev env sc nm) ?_
  cases lookS env sc nm with
  | none => exact Ev.ret _
  | some t => exact Ev.ret _
 | false =>
  simp only [cond_false]
  refine Ev.bind (a := (op == 29 && !(knows env ty))) ?_ ?_
  ·cases h29 : (op == 29) with
   | true =>
    obtain ⟨_, hvt, _⟩ := h29k (by simpa using h29)
    exact Ev.bind (Knows_ev env hvt) (Ev.ret _)
   | false => exact Ev.ret _
  cases (op == 29 && !(knows env ty)) with
  | true => exact Ev.ret _
  | false =>
   simp only [cond_false]
   have hloop := loopG ks (fun n k i (s : List Ty) => R2_typeOf_L0 n (fun p0 p1 p2 => R2_typeOf n p0 p1 p2) env sc.reverse (.mk op nm m ty ks) k (s, i))
    (fun n i x s => (((((R1_Binder n op).bind fun (x14 : Bool) => (cond x14 (some (i == 1)) (some false))) : Option Bool).bind fun (s5 : Bool) => (cond s5 ((idx s 0).bind fun (x8 : Ty) => ((R2_isSet n x8).bind fun (x9 : Bool) => (cond (!x9) (some (.rt ((Ty.mk 0 ([] : Str) ([])), ([] : List Int), 7))) ((app 64 ([] : List Decl) sc.reverse).bind fun (x10 : List Decl) => ((idx s 0).bind fun (x11 : Ty) => ((idx x11.kids 0).bind fun (x12 : Ty) => ((app 64 x10 ([(Decl.mk nm x12)])).bind fun (x13 : List Decl) => some (.nx x13)))))))) (some (.nx sc.reverse)))) : Option (LR (List Decl) (Ty × (List Int) × Int))).bind (LR.el (fun (s4 : List Decl) => ((R2_typeOf n env s4 x).bind fun (x5 : Ty × (List Int) × Int) => (cond (x5.2.2 != 0) ((app 8 ([i]) x5.2.1).bind fun (x6 : List Int) => some (.rt ((Ty.mk 0 ([] : Str) ([])), x6, x5.2.2))) ((app 48 s ([x5.1])).bind fun (x7 : List Ty) => some (.nx x7))))) (fun r => some (.rt r))))
    (stR env op nm sc) (fun s => s) (fun i suf s => (∀ t ∈ s, Top t) ∧ s.length + suf.length ≤ 2000 ∧ (s.length : Int) = i)
    (fun n k s => by
     show cond (decide ((ks.length : Int) < (ks.length : Int))) _ _ = _
     rw [decide_eq_false (by omega)]
     rfl)
    (fun n k i x s hx hi => by
     show cond (decide (i < (ks.length : Int))) _ _ = _
     rw [hi]
     simp only [cond_true, Tm.op, Tm.name, Tm.kids, hx, Option.bind_some]
     conv => rhs; rw [Option.bind_assoc]
     congr 1
     funext r
     cases r with
     | rt r => rfl
     | nx s4 =>
      simp only [LR.el]
      conv => rhs; rw [Option.bind_assoc]
      congr 1
      funext x5
      cases x5.2.2 != 0 with
      | true =>
       simp only [cond_true, Option.bind_assoc]
       rfl
      | false =>
       simp only [cond_false, Option.bind_assoc]
       rfl)
    (fun i x suf s hx hI hidx => by
     obtain ⟨h1, h2, h3⟩ := hI
     simp only [List.length_cons] at h2
     refine ⟨?_, fun s' hs' => ?_⟩
     ·have hsc : Ev (fun n => ((((R1_Binder n op).bind fun (x14 : Bool) => (cond x14 (some (i == 1)) (some false))) : Option Bool).bind fun (s5 : Bool) => (cond s5 ((idx s 0).bind fun (x8 : Ty) => ((R2_isSet n x8).bind fun (x9 : Bool) => (cond (!x9) (some (.rt ((Ty.mk 0 ([] : Str) ([])), ([] : List Int), 7))) ((app 64 ([] : List Decl) sc.reverse).bind fun (x10 : List Decl) => ((idx s 0).bind fun (x11 : Ty) => ((idx x11.kids 0).bind fun (x12 : Ty) => ((app 64 x10 ([(Decl.mk nm x12)])).bind fun (x13 : List Decl) => some (.nx x13)))))))) (some (.nx sc.reverse)))))
        ((match scR op nm sc i s with | none => .rt (tyZero, [], 7) | some sc' => .nx sc'.reverse : LR (List Decl) (Ty × (List Int) × Int))) := by
       simp only [Binder_eq, Option.bind_some]
       refine Ev.bind (a := bindB op && i == 1) ?_ ?_
       ·cases bindB op
        ·exact Ev.ret _
        ·exact Ev.ret _
       ·unfold scR bindS
        cases hbi : (bindB op && i == 1) with
        | false => exact Ev.ret _
        | true =>
         simp only [Bool.and_eq_true, beq_iff_eq] at hbi
         obtain ⟨a, l, rfl⟩ := some_of s (by rintro rfl; rw [hbi.2] at h3; simp at h3)
         have ha := h1 a (by simp)
         simp only [cond_true, idx0, Option.bind_some, isSet_eq _ ha, List.headD_cons]
         cases he : setO a with
         | none => exact Ev.ret _
         | some e =>
          obtain ⟨_, rfl⟩ := setO_good ha he
          have hr : sc.reverse.length = sc.length := List.length_reverse
          simp only [Option.isSome_some, Bool.not_true, cond_false]
          rw [app_eq (by simp; omega) (by omega)]
          simp only [Option.bind_some, List.nil_append]
          show Ev (fun n => (app 64 sc.reverse [Decl.mk nm e]).bind _) _
          rw [app_eq (by simp; omega) (by omega)]
          simp only [Option.bind_some, Option.map_some, List.reverse_cons]
          exact Ev.ret _
      refine Ev.bind hsc ?_
      unfold stR
      cases hsR : scR op nm sc i s with
      | none => exact Ev.ret _
      | some sc' =>
       simp only [LR.el]
       have hg : GoodS sc' ∧ (sc'.length : Int) < d + 1 := by
        unfold scR at hsR
        have htop : bindB op && i == 1 → Top (s.headD tyZero) := fun hbi => by
         simp only [Bool.and_eq_true, beq_iff_eq] at hbi
         obtain ⟨a, l, rfl⟩ := some_of s (by rintro rfl; rw [hbi.2] at h3; simp at h3)
         exact h1 a (by simp)
        cases hbi : (bindB op && i == 1) with
        | false => rw [hbi] at hsR; cases hsR; exact ⟨hs, by omega⟩
        | true =>
         rw [hbi] at hsR
         refine ⟨bindS_good (htop hbi) hs hsR, ?_⟩
         unfold bindS at hsR
         simp only [cond_true] at hsR
         cases he : setO (s.headD tyZero) with
         | none => rw [he] at hsR; cases hsR
         | some e => rw [he] at hsR; cases hsR; simp; omega
       refine Ev.bind (ih x hx (d + 1) sc' (hkw x hx) hg.1 hg.2) ?_
       cases ht : tyOf env sc' x with
       | er e p =>
        have he := tyOf_er x sc' e p ht
        have e0 : (e != 0) = true := by simpa using he
        have hpl := tyOf_path (hkw x hx) sc' e p ht
        simp only [resR, e0, cond_true]
        rw [app_eq (by simp; omega) (by omega)]
        exact Ev.ret _
       | ok u =>
        simp only [resR, show ((0 : Int) != 0) = false from rfl, cond_false]
        rw [app_eq (by simp; omega) (by omega)]
        exact Ev.ret _
     ·unfold stR at hs'
      cases hsR : scR op nm sc i s with
      | none => rw [hsR] at hs'; cases hs'
      | some sc' =>
       rw [hsR] at hs'
       simp only at hs'
       have hg : GoodS sc' := by
        unfold scR at hsR
        cases hbi : (bindB op && i == 1) with
        | false => rw [hbi] at hsR; cases hsR; exact hs
        | true =>
         rw [hbi] at hsR
         simp only [Bool.and_eq_true, beq_iff_eq] at hbi
         obtain ⟨a, l, rfl⟩ := some_of s (by rintro rfl; rw [hbi.2] at h3; simp at h3)
         exact bindS_good (h1 a (by simp)) hs hsR
       cases ht : tyOf env sc' x with
       | er e p => rw [ht] at hs'; cases hs'
       | ok u =>
        rw [ht] at hs'
        cases hs'
        refine ⟨fun t h => ?_, ?_, ?_⟩
        ·rcases List.mem_append.1 h with h | h
         ·exact h1 t h
         ·rw [List.mem_singleton.1 h]; exact tyOf_top hv hg ht
        ·simp only [List.length_append, List.length_singleton]; omega
        ·simp only [List.length_append, List.length_singleton, Int.natCast_add, Int.natCast_one]; omega) (s0 := []) ⟨fun t h => (by cases h), by simp; omega, rfl⟩
   have hrun : runI (stR env op nm sc) (fun s => s) 0 ks [] = resK [] (tyKs env sc (bindB op) nm 0 ks) := by
    cases hb : bindB op with
    | false => exact stR_run0 env op hb nm sc ks 0 []
    | true =>
     obtain ⟨x, y, rfl⟩ := hbk hb
     exact stR_run1 env op hb nm sc x y
   rw [hrun] at hloop
   refine Ev.bind hloop ?_
   cases hk : tyKs env sc (bindB op) nm 0 ks with
   | er e p => exact Ev.ret _
   | ok l =>
    simp only [resK, LR.el, List.nil_append]
    obtain ⟨k1, k2, k3⟩ := tyKs_ok hv ks sc (bindB op) nm 0 l hs hk
    have hrow : Row (fun n => R2_row n (.mk op nm m ty ks) l) (cond (op == 29) (some (tySet ty)) (rowO op l)) := by
     cases h29 : (op == 29) with
     | true =>
      have e : op = 29 := by simpa using h29
      subst e
      exact Row.yes (tySet ty) (Ev.ret _) rfl
     | false => exact R2_row_ev hop.1 hop.2 (by simpa using h20) (by simpa using h29) k2 (hlen l k1) nm m ty ks
    obtain ⟨r, hr1, hr2⟩ := hrow
    refine Ev.bind hr1 ?_
    unfold RowIs at hr2
    cases ho : (cond (op == 29) (some (tySet ty)) (rowO op l)) with
    | none =>
     rw [ho] at hr2
     simp only at hr2
     simp only [hr2, Bool.not_false, cond_true, finT]
     exact Ev.ret _
    | some t =>
     rw [ho] at hr2
     simp only at hr2
     subst hr2
     simp only [Bool.not_true, cond_false, finT]
     refine Ev.bind (R1_ValidType_ev t) ?_
     cases validT t with
     | false => exact Ev.ret _
     | true => exact Ev.ret _
end Abs
end Go.Proofs.YtiiaccpcoclklaaGreat
namespace Go.Proofs.YtiiaccpcoclklaaGreat
namespace Abs
open Go
def typeE0 (env : Env) (t : Tm) : Ty × List Int × Int := cond (validE env && validM t) (resR (tyOf env [] t)) (tyZero, [], 1)
theorem goodS0 : GoodS [] := fun _ h => by cases h
abbrev ShortE (env : Env) : Prop := ∀ d ∈ env.names, d.name.length ≤ 9223372036854775807
theorem typing_TypeOf_ev (env : Env) (t : Tm) (hs : ShortE env) (ht : tmS t) : Ev (fun n => typing_TypeOf n env t) (typeE0 env t) := by
 unfold typing_TypeOf typeE0
 refine Ev.bind (a := !(validE env && validM t)) ?_ ?_
 ·refine Ev.bind (typing_ValidEnv_ev env hs) ?_
  cases validE env with
  | false => exact Ev.ret _
  | true => exact Ev.bind (term_Valid_ev t ht) (Ev.ret _)
 ·cases hb : (validE env && validM t) with
  | false => exact Ev.ret _
  | true =>
   simp only [Bool.and_eq_true] at hb
   simp only [Bool.not_true, cond_false, cond_true]
   refine Ev.bind (newChecker_ev hb.1) ?_
   refine Ev.bind (checkE hb.1 t 1 [] [] (valid_wf hb.2) goodS0 (by simp)) ?_
   cases hr : tyOf env [] t with
   | er e p =>
    have he := tyOf_er t [] e p hr
    have e0 : (e != 0) = true := by simpa using he
    have hp := tyOf_path (valid_wf hb.2) [] e p hr
    simp only [resC, resR, e0, cond_true, slices_Clone_int, List.nil_append]
    rw [app_eq (by simp; omega) (by omega)]
    exact Ev.ret _
   | ok u =>
    simp only [resC, resR, show ((0 : Int) != 0) = false from rfl, cond_false]
    exact Ev.bind (copyType_ev u (top_ok (tyOf_top hb.1 goodS0 hr))) (Ev.ret _)
theorem R2_TypeOf_ev (env : Env) (t : Tm) : Ev (fun n => R2_TypeOf n env t) (typeE0 env t) := by
 unfold R2_TypeOf typeE0
 refine Ev.bind (a := !(validE env && validM t)) ?_ ?_
 ·refine Ev.bind (R2_ValidEnv_ev env) ?_
  cases validE env with
  | false => exact Ev.ret _
  | true => exact Ev.bind (R1_Valid_ev t) (Ev.ret _)
 ·cases hb : (validE env && validM t) with
  | false => exact Ev.ret _
  | true =>
   simp only [Bool.and_eq_true] at hb
   simp only [Bool.not_true, cond_false, cond_true]
   refine Ev.bind (typeE hb.1 t 1 [] (valid_wf hb.2) goodS0 (by simp)) ?_
   cases hr : tyOf env [] t with
   | er e p => exact Ev.bind (CopyType_ev tyZero rfl) (Ev.ret _)
   | ok u => exact Ev.bind (CopyType_ev u (top_ok (tyOf_top hb.1 goodS0 hr))) (Ev.ret _)
theorem law_TypingTypes (env : Env) (t : Tm) (hs : ShortE env) (ht : tmS t) : Ev (fun n => L2_TypingTypes n env t) true := by
 unfold L2_TypingTypes L2_awake
 refine Ev.bind (small_ev env) ?_
 cases smallB env with
 | false => exact Ev.ret _
 | true =>
  simp only [Bool.not_true, cond_false]
  refine Ev.bind (typing_TypeOf_ev env t hs ht) ?_
  refine Ev.bind (R2_TypeOf_ev env t) ?_
  generalize typeE0 env t = r
  refine Ev.bind (a := false) ?_ ?_
  ·simp only [bne_self', cond_false]
   refine Ev.bind (SameType_ev r.1) ?_
   exact Ev.ret _
  ·simp only [cond_false]
   have h := loopStop r.2.1 (fun n k i => L2_TypingTypes_L0 n r r k i) (fun _ x => some false) (fun _ => false) false
    (fun n k i => by
     show cond _ _ _ = _
     congr 1
     cases hx : idx r.2.1 i with
     | none => rfl
     | some x => simp only [Option.bind_some, bne_self', cond_false]) (fun x _ => Ev.ret _)
   rw [any_ff] at h
   exact Ev.bind h (Ev.ret _)
end Abs
end Go.Proofs.YtiiaccpcoclklaaGreat

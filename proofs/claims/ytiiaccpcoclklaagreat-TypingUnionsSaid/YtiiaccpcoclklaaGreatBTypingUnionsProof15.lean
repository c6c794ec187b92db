/-
  Union of the program and of the document come to the same plain answer; the law TypingUnions. Conditions: none; lemmas without a program. From what the claim's form reads of an argument to the abstract values: a datum of the program's types that can be read stands for a plain tree. Conditions: none; lemmas over any program, then at the program's types. The data of the program's types that can be read stand for plain trees: types, carriers, declarations, environments; the last step from a contract to a claim. Conditions: none. Closed facts of the program, each by the kernel. Conditions: none. Closed facts of TypingUnions, each by the kernel. Conditions: none.
-/
import Derived.Test.YtiiaccpcoclklaaGreatBTypingUnionsProof14
import Derived.Test.YtiiaccpcoclklaaGreatBTypingUnionsProof5
import Derived.Test.YtiiaccpcoclklaaGreatRows
import Derived.Deep.Slices
import Derived.Deep.Strs
import Derived.ProofKit
import Derived.Below
import Derived.Carry
import Derived.JoinedOf
import Derived.KernelRfl
set_option linter.unusedSimpArgs false
set_option linter.unusedVariables false
namespace Go.Proofs.YtiiaccpcoclklaaGreat
namespace Abs
open Go

/-! ### Two lists side by side -/

theorem idx_zip {α β γ : Type} (l : List α) (l' : List β) (i : Int) (F : α → β → Option γ) : ((idx l i).bind fun x => (idx l' i).bind fun y => F x y) = (idx (l.zip l') i).bind fun p => F p.1 p.2 := by
  unfold idx
  by_cases h : 0 ≤ i
  · simp only [if_pos h, List.zip, List.getElem?_zipWith]
    cases l[i.toNat]? <;> cases l'[i.toNat]? <;> rfl
  · simp only [if_neg h]; rfl
theorem loopStop2 {α β ρ : Type} (l : List α) (l' : List β) (hlen : l.length = l'.length) (L : Nat → Nat → Int → Option (LR Unit ρ)) (step : Nat → α → β → Option Bool) (p : α → β → Bool) (r : ρ)
    (hL : ∀ n k i, L n (k + 1) i = cond (decide (i < (l.length : Int))) ((idx l i).bind fun x => (idx l' i).bind fun y => (step n x y).bind fun b => cond b (some (.rt r)) (L n k (i + 1))) (some (.nx ())))
    (hp : ∀ x ∈ l, ∀ y, Ev (fun n => step n x y) (p x y)) : Ev (fun n => L n n 0) (cond ((l.zip l').any fun q => p q.1 q.2) (.rt r) (.nx ())) := by
  refine loopStop (l.zip l') L (fun n q => step n q.1 q.2) (fun q => p q.1 q.2) r (fun n k i => ?_) (fun q hq => hp q.1 (List.of_mem_zip hq).1 q.2)
  rw [hL, ← idx_zip l l' i fun x y => (step n x y).bind fun b => cond b (some (.rt r)) (L n k (i + 1))]
  have : ((l.zip l').length : Int) = (l.length : Int) := by rw [List.length_zip, ← hlen, Nat.min_self]
  rw [this]

/-! ### Equal types, equal lists of strings -/

mutual
def tyEq : Ty → Ty → Bool
  | .mk k n ks, .mk k' n' ks' => (k == k') && ((n == n') && tysEq ks ks')
def tysEq : List Ty → List Ty → Bool
  | [], [] => true
  | [], _ :: _ => false
  | _ :: _, [] => false
  | a :: ar, b :: br => tyEq a b && tysEq ar br
end
mutual
theorem tyEq_eq : ∀ a b : Ty, tyEq a b = true → a = b
  | .mk k n ks, .mk k' n' ks', h => by
    simp only [tyEq, Bool.and_eq_true, beq_iff_eq] at h
    obtain ⟨h1, h2, h3⟩ := h
    rw [h1, h2, tysEq_eq ks ks' h3]
theorem tysEq_eq : ∀ a b : List Ty, tysEq a b = true → a = b
  | [], [], _ => rfl
  | [], _ :: _, h => by cases h
  | _ :: _, [], h => by cases h
  | a :: ar, b :: br, h => by
    simp only [tysEq, Bool.and_eq_true] at h
    rw [tyEq_eq a b h.1, tysEq_eq ar br h.2]
end
mutual
theorem tyEq_refl : ∀ a : Ty, tyEq a a = true
  | .mk k n ks => by simp only [tyEq, beq_self_eq_true, tysEq_refl ks, Bool.and_self]
theorem tysEq_refl : ∀ a : List Ty, tysEq a a = true
  | [] => rfl
  | a :: ar => by simp only [tysEq, tyEq_refl a, tysEq_refl ar, Bool.and_self]
end
theorem tysEq_zip : ∀ l l' : List Ty, l.length = l'.length → (l.zip l').any (fun q => !(tyEq q.1 q.2)) = !(tysEq l l')
  | [], [], _ => rfl
  | [], _ :: _, h => by cases h
  | _ :: _, [], h => by cases h
  | a :: ar, b :: br, h => by
    have := tysEq_zip ar br (by simpa using h)
    simp only [List.zip_cons_cons, List.any_cons, this, tysEq]
    cases tyEq a b <;> rfl
theorem tysEq_len : ∀ l l' : List Ty, l.length ≠ l'.length → tysEq l l' = false
  | [], [], h => absurd rfl h
  | [], _ :: _, _ => rfl
  | _ :: _, [], _ => rfl
  | a :: ar, b :: br, h => by
    have := tysEq_len ar br (by simpa using h)
    simp only [tysEq, this, Bool.and_false]
theorem lenB {α β : Type} (l : List α) (l' : List β) : ((l.length : Int) != (l'.length : Int)) = !(l.length == l'.length) := len_ne l.length l'.length

theorem SameType2_ev : ∀ t u : Ty, Ev (fun n => R1_SameType n t u) (tyEq t u) := Ty.ind fun k nm ks ih u => by
  obtain ⟨k', nm', ks'⟩ := u
  refine Ev.succ ?_
  show Ev (fun n => R1_SameType_body n _ (.mk k nm ks) (.mk k' nm' ks')) _
  unfold R1_SameType_body
  simp only [Ty.kind, Ty.name, Ty.kids, tyEq, bne, lenB]
  cases k == k' with
  | false => exact Ev.ret _
  | true =>
    cases nm == nm' with
    | false => exact Ev.ret _
    | true =>
      simp only [Bool.not_true, cond_false, Option.bind_some, Bool.true_and]
      cases hl : (ks.length : Int) == (ks'.length : Int) with
      | false =>
        have : ks.length ≠ ks'.length := fun e => by simp [e] at hl
        rw [tysEq_len ks ks' this]
        exact Ev.ret _
      | true =>
        have hlen : ks.length = ks'.length := by have := beq_iff_eq.1 hl; omega
        simp only [Bool.not_true, cond_false]
        have h := loopStop2 ks ks' hlen (fun n k'' i => R1_SameType_L0 n (fun p0 p1 => R1_SameType n p0 p1) (.mk k nm ks) (.mk k' nm' ks') k'' i) (fun n x y => (R1_SameType n x y).bind fun b => some (!b)) (fun x y => !(tyEq x y)) false
          (fun n k'' i => by
            show cond _ _ _ = _
            congr 1
            show (idx ks i).bind _ = _
            congr 1
            funext x
            show (idx ks' i).bind _ = _
            congr 1
            funext y
            simp only [Option.bind_assoc, Option.bind_some])
          (fun x hx y => Ev.bind (ih x hx y) (Ev.ret _))
        rw [tysEq_zip ks ks' hlen] at h
        refine Ev.bind h ?_
        cases tysEq ks ks'
        · exact Ev.ret _
        · exact Ev.ret _

theorem equal_ev : ∀ t u : Ty, Ev (fun n => typing_equal n t u) (tyEq t u) := Ty.ind fun k nm ks ih u => by
  obtain ⟨k', nm', ks'⟩ := u
  refine Ev.succ ?_
  show Ev (fun n => typing_equal_body n _ _ (.mk k nm ks) (.mk k' nm' ks')) _
  unfold typing_equal_body
  simp only [Ty.kind, Ty.name, Ty.kids, tyEq]
  cases k == k' with
  | false => exact Ev.ret _
  | true =>
    cases nm == nm' with
    | false => exact Ev.ret _
    | true =>
      simp only [cond_true, Bool.true_and]
      refine Ev.bind (a := tysEq ks ks') (Ev.bind (a := tysEq ks ks') (Ev.succ ?_) (Ev.ret _)) (Ev.ret _)
      show Ev (fun n => slices_EqualFunc_Type_body n _ _ ks ks') _
      unfold slices_EqualFunc_Type_body
      simp only [bne]
      cases hl : (ks.length : Int) == (ks'.length : Int) with
      | false =>
        have : ks.length ≠ ks'.length := fun e => by simp [e] at hl
        rw [tysEq_len ks ks' this]
        exact Ev.ret _
      | true =>
        have hlen : ks.length = ks'.length := by have := beq_iff_eq.1 hl; omega
        simp only [Bool.not_true, cond_false]
        have h := loopStop2 ks ks' hlen (fun n k'' i => slices_EqualFunc_Type_L0 n (fun p0 p1 => typing_equal n p0 p1) (fun p0 p1 => slices_EqualFunc_Type n p0 p1) ks ks' k'' i) (fun n x y => (typing_equal n x y).bind fun b => some (!b)) (fun x y => !(tyEq x y)) false
          (fun n k'' i => by
            show cond _ _ _ = _
            congr 1
            congr 1
            funext x
            congr 1
            funext y
            simp only [Option.bind_assoc, Option.bind_some])
          (fun x hx y => Ev.bind (ih x hx y) (Ev.ret _))
        rw [tysEq_zip ks ks' hlen] at h
        refine Ev.bind h ?_
        cases tysEq ks ks'
        · exact Ev.ret _
        · exact Ev.ret _

theorem zip_beq : ∀ l l' : List Str, l.length = l'.length → (l.zip l').any (fun q => !(q.1 == q.2)) = !(l == l')
  | [], [], _ => rfl
  | [], _ :: _, h => by cases h
  | _ :: _, [], h => by cases h
  | a :: ar, b :: br, h => by
    have := zip_beq ar br (by simpa using h)
    simp only [List.zip_cons_cons, List.any_cons, this, List.cons_beq_cons]
    cases a == b <;> rfl
theorem len_beq {l l' : List Str} (h : l.length ≠ l'.length) : (l == l') = false := by
  apply beq_false_of_ne
  intro e
  exact h (congrArg List.length e)
theorem Equal_ev (l l' : List Str) : Ev (fun n => slices_Equal_string n l l') (l == l') := by
  unfold slices_Equal_string
  simp only [bne]
  cases hl : (l.length : Int) == (l'.length : Int) with
  | false =>
    rw [len_beq (fun e => by simp [e] at hl)]
    exact Ev.ret _
  | true =>
    have hlen : l.length = l'.length := by have := beq_iff_eq.1 hl; omega
    simp only [Bool.not_true, cond_false]
    have h := loopStop2 l l' hlen (fun n k i => slices_Equal_string_L0 n l l' k i) (fun _ x y => some (!(x == y))) (fun x y => !(x == y)) false (fun n k i => rfl) (fun x _ y => Ev.ret _)
    rw [zip_beq l l' hlen] at h
    refine Ev.bind h ?_
    cases l == l'
    · exact Ev.ret _
    · exact Ev.ret _
theorem same2_ev (l l' : List Str) : Ev (fun n => R2_same n l l') (l == l') := by
  unfold R2_same
  simp only [bne]
  cases hl : (l.length : Int) == (l'.length : Int) with
  | false =>
    rw [len_beq (fun e => by simp [e] at hl)]
    exact Ev.ret _
  | true =>
    have hlen : l.length = l'.length := by have := beq_iff_eq.1 hl; omega
    simp only [Bool.not_true, cond_false]
    have h := loopStop2 l l' hlen (fun n k i => R2_same_L0 n l l' k i) (fun _ x y => some (!(x == y))) (fun x y => !(x == y)) false (fun n k i => rfl) (fun x _ y => Ev.ret _)
    rw [zip_beq l l' hlen] at h
    refine Ev.bind h ?_
    cases l == l'
    · exact Ev.ret _
    · exact Ev.ret _

/-! ### Union -/

def env0 : Env := Env.mk [] []
def ucSt (a : Env) (c : Carrier) (s : List Carrier) : LR (List Carrier) (Env × Int) := match a.carriers.find? (fun x => x.name == c.name) with
  | none => .nx (s ++ [c])
  | some x => cond (x.elems == c.elems) (.nx s) (.rt (env0, 8))
def udSt (a : Env) (d : Decl) (s : List Decl) : LR (List Decl) (Env × Int) := match a.names.find? (fun x => x.name == d.name) with
  | none => .nx (s ++ [d])
  | some x => cond (tyEq x.ty d.ty) (.nx s) (.rt (env0, 8))
def unionE (a b : Env) : Env × Int :=
  cond (!(validE a && validE b)) (env0, 1) (match runL (ucSt a) (fun s => s) b.carriers a.carriers with
    | .rt r => r
    | .nx cs => match runL (udSt a) (fun s => s) b.names a.names with
      | .rt r => r
      | .nx ds => cond (!(distA [] (names2 ⟨cs, ds⟩))) (env0, 8) (cond (decide (8 < (cs.length : Int)) || decide (64 < (ds.length : Int))) (env0, 5) (⟨cs, ds⟩, 0)))

theorem uc_run (a : Env) : ∀ (l s cs : List Carrier), runL (ucSt a) (fun s => s) l s = .nx cs → cs = s ++ l.filter (fun c => !(hasCar a c.name)) ∧ ∀ c ∈ l, hasCar a c.name = true → c ∈ a.carriers
  | [], s, cs, h => by
    simp only [runL, LR.nx.injEq] at h
    subst h
    exact ⟨by simp, fun c hc => by cases hc⟩
  | c :: l, s, cs, h => by
    simp only [runL, ucSt] at h
    cases hf : a.carriers.find? (fun x => x.name == c.name) with
    | none =>
      rw [hf] at h
      have hn : hasCar a c.name = false := by
        unfold hasCar
        rw [List.any_eq_false]
        exact List.find?_eq_none.1 hf
      obtain ⟨h1, h2⟩ := uc_run a l (s ++ [c]) cs h
      refine ⟨by rw [h1, List.filter_cons, hn]; simp, fun x hx hh => ?_⟩
      rcases List.mem_cons.1 hx with rfl | hx
      · rw [hn] at hh; cases hh
      · exact h2 x hx hh
    | some x =>
      rw [hf] at h
      have hxm := List.mem_of_find?_eq_some hf
      have hxn : x.name = c.name := by simpa using List.find?_some (p := fun x : Carrier => x.name == c.name) hf
      have hn : hasCar a c.name = true := by
        unfold hasCar
        rw [List.any_eq_true]
        exact ⟨x, hxm, by simp [hxn]⟩
      cases he : x.elems == c.elems with
      | false => simp only [he, cond_false] at h; cases h
      | true =>
        simp only [he, cond_true] at h
        have hxe : x.elems = c.elems := by simpa using he
        have hxc : x = c := by cases x; cases c; simp_all
        obtain ⟨h1, h2⟩ := uc_run a l s cs h
        refine ⟨by rw [h1, List.filter_cons, hn]; simp, fun y hy hh => ?_⟩
        rcases List.mem_cons.1 hy with rfl | hy
        · exact hxc ▸ hxm
        · exact h2 y hy hh
theorem ud_run (a : Env) : ∀ (l s ds : List Decl), runL (udSt a) (fun s => s) l s = .nx ds → ds = s ++ l.filter (fun d => !(a.names.any fun x => x.name == d.name)) ∧ ∀ d ∈ l, (a.names.any fun x => x.name == d.name) = true → d ∈ a.names
  | [], s, cs, h => by
    simp only [runL, LR.nx.injEq] at h
    subst h
    exact ⟨by simp, fun c hc => by cases hc⟩
  | d :: l, s, cs, h => by
    simp only [runL, udSt] at h
    cases hf : a.names.find? (fun x => x.name == d.name) with
    | none =>
      rw [hf] at h
      have hn : (a.names.any fun x => x.name == d.name) = false := by
        rw [List.any_eq_false]
        exact List.find?_eq_none.1 hf
      obtain ⟨h1, h2⟩ := ud_run a l (s ++ [d]) cs h
      refine ⟨by rw [h1, List.filter_cons, hn]; simp, fun x hx hh => ?_⟩
      rcases List.mem_cons.1 hx with rfl | hx
      · rw [hn] at hh; cases hh
      · exact h2 x hx hh
    | some x =>
      rw [hf] at h
      have hxm := List.mem_of_find?_eq_some hf
      have hxn : x.name = d.name := by simpa using List.find?_some (p := fun x : Decl => x.name == d.name) hf
      have hn : (a.names.any fun x => x.name == d.name) = true := by
        rw [List.any_eq_true]
        exact ⟨x, hxm, by simp [hxn]⟩
      cases he : tyEq x.ty d.ty with
      | false => simp only [he, cond_false] at h; cases h
      | true =>
        simp only [he, cond_true] at h
        have hxe : x.ty = d.ty := tyEq_eq _ _ he
        have hxc : x = d := by cases x; cases d; simp_all
        obtain ⟨h1, h2⟩ := ud_run a l s cs h
        refine ⟨by rw [h1, List.filter_cons, hn]; simp, fun y hy hh => ?_⟩
        rcases List.mem_cons.1 hy with rfl | hy
        · exact hxc ▸ hxm
        · exact h2 y hy hh

theorem uc_len (a : Env) (c : Carrier) (s s' : List Carrier) (h : ucSt a c s = .nx s') : s'.length ≤ s.length + 1 := by
  unfold ucSt at h
  split at h
  · cases h; simp
  · rename_i x _
    cases he : x.elems == c.elems with
    | false => rw [he] at h; cases h
    | true => rw [he] at h; cases h; omega
theorem ud_len (a : Env) (c : Decl) (s s' : List Decl) (h : udSt a c s = .nx s') : s'.length ≤ s.length + 1 := by
  unfold udSt at h
  split at h
  · cases h; simp
  · rename_i x _
    cases he : tyEq x.ty c.ty with
    | false => rw [he] at h; cases h
    | true => rw [he] at h; cases h; omega

theorem Union_L1_ev (a : Env) (x2 : List Carrier × List Decl) (s : List Carrier) (h : s.length + x2.1.length ≤ 1000) : Ev (fun n => typing_Union_L1 n a x2 n (0, s)) (runL (ucSt a) (fun s => s) x2.1 s) := by
  refine loopEv x2.1 (fun n k i s => typing_Union_L1 n a x2 k (i, s)) (fun n x s => (slices_IndexFunc_Carrier_1 n a.carriers x.name x.elems).bind fun x11 => cond (decide (x11 < 0)) ((app 40 s [x]).bind fun x12 => some (.nx x12)) ((idx a.carriers x11).bind fun x13 => (slices_Equal_string n x13.elems x.elems).bind fun x14 => cond (!x14) (some (.rt (env0, 8))) (some (.nx s)))) (ucSt a) (fun s => s) (fun suf s => s.length + suf.length ≤ 1000)
    (fun n k i s => ?_) (fun x suf s hx hs => ⟨?_, fun s' he => ?_⟩) h
  · show cond _ _ _ = _
    congr 1
    show ((idx x2.1 i).bind _).bind _ = _
    rw [Option.bind_assoc]
    rfl
  · simp only [List.length_cons] at hs
    unfold slices_IndexFunc_Carrier_1 ucSt
    refine Ev.bind (loopFind a.carriers (fun n k i => slices_IndexFunc_Carrier_1_L0 n a.carriers x.name k i) (fun _ y => some (y.name == x.name)) (fun y => y.name == x.name) (fun n k i => rfl) (fun y _ => Ev.ret _)) ?_
    rcases findI_get (fun y : Carrier => y.name == x.name) a.carriers [] with ⟨y, h1, h2, h3, h4⟩ | ⟨h1, h2⟩
    · simp only [List.length_nil, Int.natCast_zero, List.nil_append] at h3 h4
      rw [h1, lt_not_le, decide_eq_true h3, h4]
      simp only [Bool.not_true, cond_false, Option.bind_some]
      refine Ev.bind (Equal_ev _ _) ?_
      cases y.elems == x.elems
      · exact Ev.ret _
      · exact Ev.ret _
    · simp only [List.length_nil, Int.natCast_zero] at h2
      rw [h1, h2, app_eq (by simp only [List.length_singleton]; omega) (by omega)]
      exact Ev.ret _
  · simp only [List.length_cons] at hs
    have := uc_len a x s s' he
    omega
theorem Union_L0_ev (a : Env) (x2 : List Carrier × List Decl) (s : List Decl) (h : s.length + x2.2.length ≤ 1000) : Ev (fun n => typing_Union_L0 n a x2 n (0, s)) (runL (udSt a) (fun s => s) x2.2 s) := by
  refine loopEv x2.2 (fun n k i s => typing_Union_L0 n a x2 k (i, s)) (fun n x s => (slices_IndexFunc_Decl n a.names x.name x.ty.kind x.ty.name x.ty.kids).bind fun x11 => cond (decide (x11 < 0)) ((app 64 s [x]).bind fun x12 => some (.nx x12)) ((idx a.names x11).bind fun x13 => (typing_equal n x13.ty x.ty).bind fun x14 => cond (!x14) (some (.rt (env0, 8))) (some (.nx s)))) (udSt a) (fun s => s) (fun suf s => s.length + suf.length ≤ 1000)
    (fun n k i s => ?_) (fun x suf s hx hs => ⟨?_, fun s' he => ?_⟩) h
  · show cond _ _ _ = _
    congr 1
    show ((idx x2.2 i).bind _).bind _ = _
    rw [Option.bind_assoc]
    rfl
  · simp only [List.length_cons] at hs
    unfold slices_IndexFunc_Decl udSt
    refine Ev.bind (loopFind a.names (fun n k i => slices_IndexFunc_Decl_L0 n a.names x.name k i) (fun _ y => some (y.name == x.name)) (fun y => y.name == x.name) (fun n k i => rfl) (fun y _ => Ev.ret _)) ?_
    rcases findI_get (fun y : Decl => y.name == x.name) a.names [] with ⟨y, h1, h2, h3, h4⟩ | ⟨h1, h2⟩
    · simp only [List.length_nil, Int.natCast_zero, List.nil_append] at h3 h4
      rw [h1, lt_not_le, decide_eq_true h3, h4]
      simp only [Bool.not_true, cond_false, Option.bind_some]
      refine Ev.bind (equal_ev _ _) ?_
      cases tyEq y.ty x.ty
      · exact Ev.ret _
      · exact Ev.ret _
    · simp only [List.length_nil, Int.natCast_zero] at h2
      rw [h1, h2, app_eq (by simp only [List.length_singleton]; omega) (by omega)]
      exact Ev.ret _
  · simp only [List.length_cons] at hs
    have := ud_len a x s s' he
    omega
theorem R2_Union_L2_ev (a : Env) (x2 : List Carrier × List Decl) (s : List Carrier) (h : s.length + x2.1.length ≤ 1000) : Ev (fun n => R2_Union_L2 n a x2 n (0, s)) (runL (ucSt a) (fun s => s) x2.1 s) := by
  refine loopEv x2.1 (fun n k i s => R2_Union_L2 n a x2 k (i, s)) (fun n x s => (R2_FindCarrier n a x.name).bind fun x13 => (cond (decide (0 ≤ x13)) ((idx a.carriers x13).bind fun x15 => (R2_SameCarrier n x15 x).bind fun x16 => some (!x16)) (some false) : Option Bool).bind fun s12 => cond s12 (some (.rt (env0, 8))) (cond (decide (x13 < 0)) ((app 40 s [x]).bind fun x14 => some (.nx x14)) (some (.nx s)))) (ucSt a) (fun s => s) (fun suf s => s.length + suf.length ≤ 1000)
    (fun n k i s => ?_) (fun x suf s hx hs => ⟨?_, fun s' he => ?_⟩) h
  · show cond _ _ _ = _
    congr 1
    show ((idx x2.1 i).bind _).bind _ = _
    rw [Option.bind_assoc]
    rfl
  · simp only [List.length_cons] at hs
    unfold ucSt
    refine Ev.bind (FindCarrier_ev a x.name) ?_
    rcases findI_get (fun y : Carrier => y.name == x.name) a.carriers [] with ⟨y, h1, h2, h3, h4⟩ | ⟨h1, h2⟩
    · simp only [List.length_nil, Int.natCast_zero, List.nil_append] at h3 h4
      rw [h1, lt_not_le, decide_eq_true h3, h4]
      simp only [Bool.not_true, cond_false, cond_true, Option.bind_some]
      refine Ev.bind (a := !(y.elems == x.elems)) (Ev.bind (a := y.elems == x.elems) ?_ (Ev.ret _)) ?_
      · unfold R2_SameCarrier
        rw [h2]
        exact Ev.bind (Ev.bind (same2_ev _ _) (Ev.ret _)) (Ev.ret _)
      · cases y.elems == x.elems
        · exact Ev.ret _
        · exact Ev.ret _
    · simp only [List.length_nil, Int.natCast_zero] at h2
      rw [h1, h2, app_eq (by simp only [List.length_singleton]; omega) (by omega)]
      exact Ev.ret _
  · simp only [List.length_cons] at hs
    have := uc_len a x s s' he
    omega
theorem R2_Union_L1_ev (a : Env) (x2 : List Carrier × List Decl) (s : List Decl) (h : s.length + x2.2.length ≤ 1000) : Ev (fun n => R2_Union_L1 n a x2 n (0, s)) (runL (udSt a) (fun s => s) x2.2 s) := by
  refine loopEv x2.2 (fun n k i s => R2_Union_L1 n a x2 k (i, s)) (fun n x s => (R2_FindName n a x.name).bind fun x13 => (cond (decide (0 ≤ x13)) ((idx a.names x13).bind fun x15 => (R1_SameType n x15.ty x.ty).bind fun x16 => some (!x16)) (some false) : Option Bool).bind fun s12 => cond s12 (some (.rt (env0, 8))) (cond (decide (x13 < 0)) ((app 64 s [x]).bind fun x14 => some (.nx x14)) (some (.nx s)))) (udSt a) (fun s => s) (fun suf s => s.length + suf.length ≤ 1000)
    (fun n k i s => ?_) (fun x suf s hx hs => ⟨?_, fun s' he => ?_⟩) h
  · show cond _ _ _ = _
    congr 1
    show ((idx x2.2 i).bind _).bind _ = _
    rw [Option.bind_assoc]
    rfl
  · simp only [List.length_cons] at hs
    unfold udSt
    refine Ev.bind (FindName_ev a x.name) ?_
    rcases findI_get (fun y : Decl => y.name == x.name) a.names [] with ⟨y, h1, h2, h3, h4⟩ | ⟨h1, h2⟩
    · simp only [List.length_nil, Int.natCast_zero, List.nil_append] at h3 h4
      rw [h1, lt_not_le, decide_eq_true h3, h4]
      simp only [Bool.not_true, cond_false, cond_true, Option.bind_some]
      refine Ev.bind (a := !(tyEq y.ty x.ty)) (Ev.bind (SameType2_ev _ _) (Ev.ret _)) ?_
      cases tyEq y.ty x.ty
      · exact Ev.ret _
      · exact Ev.ret _
    · simp only [List.length_nil, Int.natCast_zero] at h2
      rw [h1, h2, app_eq (by simp only [List.length_singleton]; omega) (by omega)]
      exact Ev.ret _
  · simp only [List.length_cons] at hs
    have := ud_len a x s s' he
    omega

theorem filter_sub {α : Type} {p : α → Bool} {l : List α} : (l.filter p).length ≤ l.length := List.length_filter_le p l

/-- What a union consists of. -/
structure Joined (a b : Env) (cs : List Carrier) (ds : List Decl) : Prop where
  c1 : ∀ c ∈ a.carriers, c ∈ cs
  c2 : ∀ c ∈ b.carriers, c ∈ cs
  c3 : ∀ c ∈ cs, c ∈ a.carriers ∨ c ∈ b.carriers
  d1 : ∀ d ∈ a.names, d ∈ ds
  d2 : ∀ d ∈ b.names, d ∈ ds
  d3 : ∀ d ∈ ds, d ∈ a.names ∨ d ∈ b.names
  cl : cs.length ≤ a.carriers.length + b.carriers.length
  dl : ds.length ≤ a.names.length + b.names.length
theorem joined_of {a b : Env} {cs : List Carrier} {ds : List Decl} (h1 : runL (ucSt a) (fun s => s) b.carriers a.carriers = .nx cs) (h2 : runL (udSt a) (fun s => s) b.names a.names = .nx ds) : Joined a b cs ds := by
  obtain ⟨e1, k1⟩ := uc_run a _ _ _ h1
  obtain ⟨e2, k2⟩ := ud_run a _ _ _ h2
  refine ⟨fun c hc => ?_, fun c hc => ?_, fun c hc => ?_, fun c hc => ?_, fun c hc => ?_, fun c hc => ?_, ?_, ?_⟩
  · rw [e1]; exact List.mem_append_left _ hc
  · cases hh : hasCar a c.name with
    | true => rw [e1]; exact List.mem_append_left _ (k1 c hc hh)
    | false => rw [e1]; exact List.mem_append_right _ (List.mem_filter.2 ⟨hc, by rw [hh]; rfl⟩)
  · rw [e1] at hc
    rcases List.mem_append.1 hc with hc | hc
    · exact .inl hc
    · exact .inr (List.mem_filter.1 hc).1
  · rw [e2]; exact List.mem_append_left _ hc
  · cases hh : a.names.any fun x => x.name == c.name with
    | true => rw [e2]; exact List.mem_append_left _ (k2 c hc hh)
    | false => rw [e2]; exact List.mem_append_right _ (List.mem_filter.2 ⟨hc, by rw [hh]; rfl⟩)
  · rw [e2] at hc
    rcases List.mem_append.1 hc with hc | hc
    · exact .inl hc
    · exact .inr (List.mem_filter.1 hc).1
  · rw [e1, List.length_append]
    have := filter_sub (p := fun c => !(hasCar a c.name)) (l := b.carriers)
    omega
  · rw [e2, List.length_append]
    have := filter_sub (p := fun d : Decl => !(a.names.any fun x => x.name == d.name)) (l := b.names)
    omega
theorem joined_names {a b : Env} (ha : validE a = true) (hb : validE b = true) {cs : List Carrier} {ds : List Decl} (h : Joined a b cs ds) : (names2 ⟨cs, ds⟩).length ≤ 1000 := by
  obtain ⟨a1, a2, _⟩ := valid_parts ha
  obtain ⟨b1, b2, _⟩ := valid_parts hb
  have key : ∀ l : List Carrier, (∀ c ∈ l, c.elems.length ≤ 8) → (l.flatMap (·.elems)).length ≤ 8 * l.length := by
    intro l
    induction l with
    | nil => intro _; simp
    | cons c l ih =>
      intro hh
      have x := hh c (List.mem_cons_self ..)
      have y := ih fun c hc => hh c (List.mem_cons_of_mem _ hc)
      simp only [List.flatMap_cons, List.length_append, List.length_cons]
      omega
  have k := key cs fun c hc => by
    rcases h.c3 c hc with hc | hc
    · exact (valid_car ha hc).2.1
    · exact (valid_car hb hc).2.1
  have := h.cl
  have := h.dl
  simp only [names2, List.length_append, List.length_map]
  omega

theorem typing_Union_ev (a b : Env) (hsa : ∀ d ∈ a.names, d.name.length ≤ 9223372036854775807) (hsb : ∀ d ∈ b.names, d.name.length ≤ 9223372036854775807) : Ev (fun n => typing_Union n a b) (unionE a b) := by
  unfold typing_Union unionE
  refine Ev.bind (a := !(validE a && validE b)) (Ev.bind (typing_ValidEnv_ev a hsa) ?_) ?_
  · cases validE a with
    | false => exact Ev.ret _
    | true => exact Ev.bind (typing_ValidEnv_ev b hsb) (Ev.ret _)
  · cases hv : (validE a && validE b) with
    | false => exact Ev.ret _
    | true =>
      simp only [Bool.and_eq_true] at hv
      obtain ⟨ha, hb⟩ := hv
      obtain ⟨a1, a2, _⟩ := valid_parts ha
      obtain ⟨b1, b2, _⟩ := valid_parts hb
      simp only [Bool.not_true, cond_false]
      refine Ev.bind (copyEnv_ev ha) ?_
      refine Ev.bind (copyEnv_ev hb) ?_
      refine Ev.bind (Union_L1_ev a (b.carriers, b.names) a.carriers (by simp only; omega)) ?_
      simp only
      cases h1 : runL (ucSt a) (fun s => s) b.carriers a.carriers with
      | rt r => exact Ev.ret _
      | nx cs =>
        refine Ev.bind (Union_L0_ev a (b.carriers, b.names) a.names (by simp only; omega)) ?_
        simp only
        cases h2 : runL (udSt a) (fun s => s) b.names a.names with
        | rt r => exact Ev.ret _
        | nx ds =>
          dsimp only
          have hj := joined_of h1 h2
          have hlen := joined_names ha hb hj
          have hlen1 : (names1 ⟨cs, ds⟩).length ≤ 1000 := by rw [(names_perm _).length_eq]; exact hlen
          refine Ev.bind (declared_ev _ (by omega)) ?_
          refine Ev.bind (distinct_ev _ (by omega)) ?_
          rw [dist12]
          cases distA [] (names2 ⟨cs, ds⟩) with
          | false => exact Ev.ret _
          | true =>
            simp only [Bool.not_true, cond_false]
            cases decide (8 < (cs.length : Int)) with
            | true => exact Ev.ret _
            | false =>
              cases decide (64 < (ds.length : Int)) with
              | true => exact Ev.ret _
              | false => exact Ev.ret _

theorem R2_Union_L0_ev (l : List Str) : Ev (fun n => R2_Union_L0 n l n 0) (cond (distA [] l) (.nx ()) (.rt (env0, 8))) := by
  have h := loopEvI l (fun n k i (_ : Unit) => R2_Union_L0 n l k i) (fun n i x _ => (scut l 0 i).bind fun x3 => (R1_In n x x3).bind fun x4 => cond x4 (some (.rt (env0, 8))) (some (.nx ()))) (fun i x _ => cond ((l.take i.toNat).any (· == x)) (.rt (env0, 8)) (.nx ())) (fun _ => ())
    (fun i suf _ => ∃ pre, l = pre ++ suf ∧ i = (pre.length : Int))
    (fun n k i s => by
      show cond _ _ _ = _
      congr 1
      congr 1
      funext x
      cases scut l 0 i with
      | none => rfl
      | some y =>
        simp only [Option.bind_some]
        cases R1_In n x y with
        | none => rfl
        | some b => cases b <;> rfl)
    (fun i x suf s hx hs => by
      obtain ⟨pre, hp, rfl⟩ := hs
      refine ⟨?_, fun _ _ => ⟨pre ++ [x], by rw [hp]; simp, by simp⟩⟩
      rw [scut_all l pre.length (by rw [hp]; simp)]
      simp only [Option.bind_some, Int.toNat_natCast]
      refine Ev.bind (R1_In_ev _ _) ?_
      cases (l.take pre.length).any (· == x)
      · exact Ev.ret _
      · exact Ev.ret _) (s0 := ()) ⟨[], rfl, rfl⟩
  have key : ∀ (suf pre : List Str), l = pre ++ suf → runI (τ := Unit) (fun i x _ => cond ((l.take i.toNat).any (· == x)) (.rt (env0, (8 : Int))) (.nx ())) (fun _ => ()) (pre.length : Int) suf () = cond (distA pre suf) (.nx ()) (.rt (env0, 8)) := by
    intro suf
    induction suf with
    | nil => intro pre _; rfl
    | cons x suf ih =>
      intro pre hp
      have ht : l.take pre.length = pre := by rw [hp]; simp
      simp only [runI, distA, Int.toNat_natCast, ht]
      cases pre.any (· == x) with
      | true => rfl
      | false =>
        have := ih (pre ++ [x]) (by rw [hp]; simp)
        simp only [List.length_append, List.length_singleton, Int.natCast_add, Int.natCast_one] at this
        simpa using this
  have := key l [] rfl
  simp only [List.length_nil, Int.natCast_zero] at this
  rw [this] at h
  exact h

theorem R2_Union_ev (a b : Env) : Ev (fun n => R2_Union n a b) (unionE a b) := by
  unfold R2_Union unionE
  refine Ev.bind (a := !(validE a && validE b)) (Ev.bind (R2_ValidEnv_ev a) ?_) ?_
  · cases validE a with
    | false => exact Ev.ret _
    | true => exact Ev.bind (R2_ValidEnv_ev b) (Ev.ret _)
  · cases hv : (validE a && validE b) with
    | false => exact Ev.ret _
    | true =>
      simp only [Bool.and_eq_true] at hv
      obtain ⟨ha, hb⟩ := hv
      obtain ⟨a1, a2, _⟩ := valid_parts ha
      obtain ⟨b1, b2, _⟩ := valid_parts hb
      simp only [Bool.not_true, cond_false]
      refine Ev.bind (CopyEnv_ev ha) ?_
      refine Ev.bind (CopyEnv_ev hb) ?_
      refine Ev.bind (R2_Union_L2_ev a (b.carriers, b.names) a.carriers (by simp only; omega)) ?_
      simp only
      cases h1 : runL (ucSt a) (fun s => s) b.carriers a.carriers with
      | rt r => exact Ev.ret _
      | nx cs =>
        refine Ev.bind (R2_Union_L1_ev a (b.carriers, b.names) a.names (by simp only; omega)) ?_
        simp only
        cases h2 : runL (udSt a) (fun s => s) b.names a.names with
        | rt r => exact Ev.ret _
        | nx ds =>
          dsimp only
          have hj := joined_of h1 h2
          have hlen := joined_names ha hb hj
          refine Ev.bind (AllNames_ev _ (by omega)) ?_
          refine Ev.bind (R2_Union_L0_ev _) ?_
          cases distA [] (names2 ⟨cs, ds⟩) with
          | false => exact Ev.ret _
          | true =>
            simp only [Bool.not_true, cond_false, cond_true]
            cases decide (8 < (cs.length : Int)) with
            | true => exact Ev.ret _
            | false =>
              cases decide (64 < (ds.length : Int)) with
              | true => exact Ev.ret _
              | false => exact Ev.ret _

/-! ### The law -/

theorem union_ok {a b : Env} (h : (unionE a b).2 = 0) : validE a = true ∧ validE b = true ∧ Joined a b (unionE a b).1.carriers (unionE a b).1.names ∧ (unionE a b).1.carriers.length ≤ 8 ∧ (unionE a b).1.names.length ≤ 64 ∧ distA [] (names2 (unionE a b).1) = true := by
  unfold unionE at h ⊢
  cases hv : (validE a && validE b) with
  | false => rw [hv] at h; cases h
  | true =>
    rw [hv] at h
    have hv' := hv
    simp only [Bool.and_eq_true] at hv'
    refine ⟨hv'.1, hv'.2, ?_⟩
    simp only [Bool.not_true, cond_false] at h ⊢
    cases h1 : runL (ucSt a) (fun s => s) b.carriers a.carriers with
    | rt r =>
      exfalso
      rw [h1] at h
      have key : ∀ (l s : List Carrier) r, runL (ucSt a) (fun s => s) l s = .rt r → r = (env0, 8) := by
        intro l
        induction l with
        | nil => intro s r h; cases h
        | cons c l ih =>
          intro s r h
          simp only [runL, ucSt] at h
          cases hf : a.carriers.find? (fun x => x.name == c.name) with
          | none => rw [hf] at h; exact ih _ _ h
          | some x =>
            rw [hf] at h
            cases he : x.elems == c.elems with
            | false => simp only [he, cond_false] at h; cases h; rfl
            | true => simp only [he, cond_true] at h; exact ih _ _ h
      rw [key _ _ _ h1] at h
      cases h
    | nx cs =>
      rw [h1] at h
      cases h2 : runL (udSt a) (fun s => s) b.names a.names with
      | rt r =>
        exfalso
        rw [h2] at h
        have key : ∀ (l s : List Decl) r, runL (udSt a) (fun s => s) l s = .rt r → r = (env0, 8) := by
          intro l
          induction l with
          | nil => intro s r h; cases h
          | cons c l ih =>
            intro s r h
            simp only [runL, udSt] at h
            cases hf : a.names.find? (fun x => x.name == c.name) with
            | none => rw [hf] at h; exact ih _ _ h
            | some x =>
              rw [hf] at h
              cases he : tyEq x.ty c.ty with
              | false => simp only [he, cond_false] at h; cases h; rfl
              | true => simp only [he, cond_true] at h; exact ih _ _ h
        have := key _ _ _ h2
        subst this
        cases h
      | nx ds =>
        rw [h2] at h
        simp only at h ⊢
        cases hd : distA [] (names2 ⟨cs, ds⟩) with
        | false => rw [hd] at h; cases h
        | true =>
          rw [hd] at h
          simp only [Bool.not_true, cond_false] at h ⊢
          by_cases h8 : 8 < (cs.length : Int)
          · rw [decide_eq_true h8] at h; cases h
          by_cases h64 : 64 < (ds.length : Int)
          · rw [decide_eq_true h64, Bool.or_true] at h; cases h
          rw [decide_eq_false h8, decide_eq_false h64]
          exact ⟨joined_of h1 h2, by simp only [Bool.or_self, cond_false]; omega, by simp only [Bool.or_self, cond_false]; omega, hd⟩

theorem hasCar_mono {a c : Env} (h : ∀ x ∈ a.carriers, x ∈ c.carriers) {l : List Str} (hl : l.all (hasCar a) = true) : l.all (hasCar c) = true := by
  rw [List.all_eq_true] at hl ⊢
  intro s hs
  have := hl s hs
  unfold hasCar at this ⊢
  rw [List.any_eq_true] at this ⊢
  obtain ⟨x, hx, e⟩ := this
  exact ⟨x, h x hx, e⟩
theorem declB_mono {a c : Env} (h : ∀ x ∈ a.carriers, x ∈ c.carriers) {d : Decl} (hd : declB a d = true) : declB c d = true := by
  simp only [declB, Bool.and_eq_true] at hd ⊢
  exact ⟨hd.1, hd.2.1, hasCar_mono h hd.2.2⟩
theorem union_valid {a b : Env} (h : (unionE a b).2 = 0) : validE (unionE a b).1 = true := by
  obtain ⟨ha, hb, hj, h8, h64, hd⟩ := union_ok h
  simp only [validE, Bool.and_eq_true, Bool.not_eq_true', Bool.or_eq_false_iff, decide_eq_false_iff_not]
  refine ⟨⟨by omega, by omega⟩, ?_, ?_, hd⟩
  · rw [List.all_eq_true]
    intro c hc
    rcases hj.c3 c hc with hc | hc
    · exact List.all_eq_true.1 (valid_parts ha).2.2.1 c hc
    · exact List.all_eq_true.1 (valid_parts hb).2.2.1 c hc
  · rw [List.all_eq_true]
    intro d hd
    rcases hj.d3 d hd with hd | hd
    · exact declB_mono hj.c1 (List.all_eq_true.1 (valid_parts ha).2.2.2.1 d hd)
    · exact declB_mono hj.c2 (List.all_eq_true.1 (valid_parts hb).2.2.2.1 d hd)
theorem look_mono {a c : Env} (ha : validE a = true) (hc : validE c = true) (h1 : ∀ x ∈ a.carriers, x ∈ c.carriers) (h2 : ∀ x ∈ a.names, x ∈ c.names) {s : Str} {t : Ty} (h : look a s = some t) : look c s = some t := by
  rw [look_mem ha] at h
  rw [look_mem hc]
  simp only [assoc1, List.mem_append, List.mem_flatMap, List.mem_map] at h ⊢
  rcases h with ⟨x, hx, e⟩ | ⟨d, hd, e⟩
  · exact .inl ⟨x, h1 x hx, e⟩
  · exact .inr ⟨d, h2 d hd, e⟩
theorem look_some {a : Env} (ha : validE a = true) {s : Str} (h : s ∈ names2 a) : ∃ t, look a s = some t := by
  have h1 : s ∈ (assoc1 a).map (·.1) := by rw [assoc1_keys]; exact (names_perm a).mem_iff.2 h
  obtain ⟨v, hv⟩ := (mem_keys _ _).1 h1
  exact ⟨v, (look_mem ha).2 ((mfind_mem _ _ _ (assoc1_nodup ha)).1 hv)⟩

theorem law_TypingUnions (a b : Env) (hsa : ∀ d ∈ a.names, d.name.length ≤ 9223372036854775807) (hsb : ∀ d ∈ b.names, d.name.length ≤ 9223372036854775807) : Ev (fun n => L2_TypingUnions n a b) true := by
  unfold L2_TypingUnions L2_awake
  refine Ev.bind (a := !(smallB a && smallB b)) (Ev.bind (small_ev a) ?_) ?_
  · cases smallB a with
    | false => exact Ev.ret _
    | true => exact Ev.bind (small_ev b) (Ev.ret _)
  · cases (smallB a && smallB b) with
    | false => exact Ev.ret _
    | true =>
      simp only [Bool.not_true, cond_false]
      refine Ev.bind (typing_Union_ev a b hsa hsb) ?_
      refine Ev.bind (R2_Union_ev a b) ?_
      refine Ev.bind (a := false) ?_ ?_
      · simp only [bne_self', cond_false]
        exact Ev.bind (SameEnv_ev _) (Ev.ret _)
      · simp only [cond_false]
        cases he : ((unionE a b).2 != 0) with
        | true => exact Ev.ret _
        | false =>
          simp only [cond_false]
          have h0 : (unionE a b).2 = 0 := by simpa [bne] using he
          have hcv := union_valid h0
          obtain ⟨ha, hb, hj, h8, h64, hd⟩ := union_ok h0
          obtain ⟨a1, a2, a3, _⟩ := valid_parts ha
          obtain ⟨b1, b2, b3, _⟩ := valid_parts hb
          have la := short_names (env := a) (by omega) (by omega) a3
          have lb := short_names (env := b) (by omega) (by omega) b3
          have hsc : ∀ d ∈ (unionE a b).1.names, d.name.length ≤ 9223372036854775807 := fun d hd => by
            rcases hj.d3 d hd with hd | hd
            · exact hsa d hd
            · exact hsb d hd
          refine Ev.bind (AllNames_ev a (by omega)) ?_
          refine Ev.bind (AllNames_ev b (by omega)) ?_
          rw [app_eq (by omega) (by omega)]
          simp only [Option.bind_some]
          have hloop := loopStop (names2 a ++ names2 b) (fun n k i => L2_TypingUnions_L0 n a b (unionE a b) (names2 a ++ names2 b) k i)
            (fun n x => (typing_Lookup n (unionE a b).1 x).bind fun x11 => (typing_Lookup n a x).bind fun x13 => (cond (!x13.2) ((typing_Lookup n b x).bind fun x16 => some (x16.2, x16.1.kind, x16.1.name, x16.1.kids)) (some (x13.2, x13.1.kind, x13.1.name, x13.1.kids)) : Option (Bool × Int × Str × List Ty)).bind fun s6 => (cond (!x11.2) (some true) (cond (!s6.1) (some true) ((R1_SameType n x11.1 (Ty.mk s6.2.1 s6.2.2.1 s6.2.2.2)).bind fun x14 => some (!x14))) : Option Bool)) (fun _ => false) false
            (fun n k i => by
              show cond _ _ _ = _
              congr 1
              cases hx : idx (names2 a ++ names2 b) i with
              | none => rfl
              | some x => simp only [Option.bind_some, Option.bind_assoc])
            (fun x hx => by
              refine Ev.bind (typing_Lookup_ev _ hsc x) ?_
              refine Ev.bind (typing_Lookup_ev a hsa x) ?_
              rw [hcv, ha]
              simp only [cond_true, lookP]
              cases hla : look a x with
              | some t =>
                rw [look_mono ha hcv hj.c1 hj.d1 hla]
                simp only [Bool.not_true, cond_false, Option.bind_some]
                obtain ⟨k, nm, ks⟩ := t
                exact Ev.bind (SameType_ev (.mk k nm ks)) (Ev.ret _)
              | none =>
                simp only [Bool.not_false, cond_true]
                have hxb : x ∈ names2 b := by
                  rcases List.mem_append.1 hx with hx | hx
                  · obtain ⟨t, ht⟩ := look_some ha hx
                    rw [ht] at hla
                    cases hla
                  · exact hx
                obtain ⟨t, ht⟩ := look_some hb hxb
                rw [look_mono hb hcv hj.c2 hj.d2 ht]
                obtain ⟨k, nm, ks⟩ := t
                refine Ev.bind (a := (true, k, nm, ks)) (Ev.bind (typing_Lookup_ev b hsb x) ?_) ?_
                · rw [hb]
                  simp only [cond_true, lookP, ht]
                  exact Ev.ret _
                · simp only [Bool.not_true, cond_false]
                  exact Ev.bind (SameType_ev (.mk k nm ks)) (Ev.ret _))
          rw [any_ff] at hloop
          refine Ev.bind hloop ?_
          refine Ev.bind (a := true) (Ev.bind (typing_ValidEnv_ev _ hsc) ?_) (Ev.ret _)
          rw [hcv]
          exact Ev.ret _
end Abs
end Go.Proofs.YtiiaccpcoclklaaGreat
namespace Go.Proofs.YtiiaccpcoclklaaGreat
namespace Abs
open Go Go.Proofs Go.Deep

/-- The cells cs stand for the abstract cells xs. -/
def CellsRel (w : World) (κ : Kap) (pv : Prv) (xs : List AV) (cs : List Value) : Prop := cs.length = xs.length ∧ ∀ j, j < xs.length → Rel w κ pv (xs.getD j .unk) (cs.getD j undef)

theorem CellsRel.one {w : World} {κ : Kap} {pv : Prv} {x : AV} {v : Value} (h : Rel w κ pv x v) : CellsRel w κ pv [x] [v] := ⟨rfl, fun j hj => by
  have : j = 0 := by simp at hj; omega
  subst this; exact h⟩
theorem CellsRel.app {w : World} {κ : Kap} {pv : Prv} {xs ys : List AV} {cs ds : List Value} (h : CellsRel w κ pv xs cs) (k : CellsRel w κ pv ys ds) : CellsRel w κ pv (xs ++ ys) (cs ++ ds) := by
  refine ⟨by simp [h.1, k.1], fun j hj => ?_⟩
  by_cases hx : j < xs.length
  · have e1 : (xs ++ ys).getD j .unk = xs.getD j .unk := by simp [List.getD, List.getElem?_append_left hx]
    have e2 : (cs ++ ds).getD j undef = cs.getD j undef := by simp [List.getD, List.getElem?_append_left (show j < cs.length by rw [h.1]; exact hx)]
    rw [e1, e2]; exact h.2 j hx
  · have e1 : (xs ++ ys).getD j .unk = ys.getD (j - xs.length) .unk := by simp [List.getD, List.getElem?_append_right (Nat.le_of_not_lt hx)]
    have e2 : (cs ++ ds).getD j undef = ds.getD (j - xs.length) undef := by simp [List.getD, List.getElem?_append_right (show cs.length ≤ j by rw [h.1]; omega), h.1]
    rw [e1, e2]; exact k.2 _ (by simp at hj; omega)
theorem CellsRel.split {w : World} {κ : Kap} {pv : Prv} {xs ys : List AV} {cs : List Value} (hl : cs.length = xs.length + ys.length) (h : CellsRel w κ pv xs (cs.take xs.length)) (k : CellsRel w κ pv ys ((cs.drop xs.length).take ys.length)) : CellsRel w κ pv (xs ++ ys) cs := by
  have := h.app k
  have e : cs.take xs.length ++ (cs.drop xs.length).take ys.length = cs := by
    rw [List.take_of_length_le (l := cs.drop xs.length) (by simp; omega), List.take_append_drop]
  rwa [e] at this

section
variable {H : Type} {enc : TypeId × Value → H} {P : Program} {w : World} {base : Nat} {spare : Nat → Bool} {held : Bool} {κ : Kap} {pv : Prv}

/-- What can be read at a type stands for data. -/
def Reads (enc : TypeId × Value → H) (P : Program) (w : World) (base : Nat) (spare : Nat → Bool) (held : Bool) (κ : Kap) (pv : Prv) {α : Type} (t : TypeId) (f : α → List AV) (fuel : Nat) : Prop :=
  ∀ cs x, DataW.trod enc P w base spare held fuel t cs = some x → ∃ a : α, CellsRel w κ pv (f a) cs

theorem reads_int {t : TypeId} (ht : P.underlying t = some (.int .i64)) (fuel : Nat) : Reads enc P w base spare held κ pv t encI fuel := fun cs x h => by
  obtain ⟨n, rfl, _, hw⟩ := DataW.trod_int ht h
  refine ⟨n, CellsRel.one (.int ?_)⟩
  simpa [Lit.wf, wfInt] using hw
theorem reads_str {t : TypeId} (ht : P.underlying t = some .string) (fuel : Nat) : Reads enc P w base spare held κ pv t encS fuel := fun cs x h => by
  obtain ⟨s, rfl, _, hw⟩ := DataW.trod_string ht h
  refine ⟨s.data.toList, CellsRel.one ?_⟩
  have := Rel.str (w := w) (κ := κ) (pv := pv) (s := s.data.toList) (by
    have : s.data.size ≤ maxLen := hw
    simpa [maxLen] using this)
  simpa using this

theorem reads_slice {α : Type} [Inhabited α] {t e : TypeId} {f : α → List AV} {sz : Nat} (ht : P.underlying t = some (.slice e)) (hc : P.cellsOf e = sz) (hsz : 0 < sz) (hf : ∀ a, (f a).length = sz) (hpv : ∀ b o, ¬ pv b o) {fuel : Nat}
    (he : ∀ n, n < fuel → Reads enc P w base spare held κ pv e f n) : Reads enc P w base spare held κ pv t (fun l : List α => [.slice (l.map f) .shared]) fuel := fun cs x h => by
  rcases DataW.trod_slice ht h with ⟨rfl, _⟩ | ⟨a, len, cap, elems, rest, m, rfl, rfl, _, _, hcap, hmax, hel, hget0, _, _⟩
  · refine ⟨[], CellsRel.one ?_⟩
    exact .slice (es := []) (tag := .shared) (a := none) (cap := 0) 0 0 sz (fun _ _ => undef) (fun i h => by cases h) (fun h => (h rfl).elim) (Nat.zero_le _) (by simp) (fun i j h => by cases h) (fun i j h => by cases h) (fun i j h => by cases h) trivial
  · have hget : ∀ i, i < len → ∃ v : List Value × α, w.cells? base (a.add (i * sz)) sz = some v.1 ∧ CellsRel w κ pv (f v.2) v.1 := fun i hi => by
      have h1 := hget0 i hi
      rw [List.getElem?_eq_getElem (by omega), hc] at h1
      obtain ⟨cs', h2, h3⟩ := Option.bind_eq_some_iff.1 h1
      obtain ⟨y, hy⟩ := he m (Nat.lt_succ_self m) cs' _ h3
      exact ⟨(cs', y), h2, hy⟩
    obtain ⟨V, hV⟩ := choose_lt hget
    refine ⟨(List.range len).map fun i => (V i).2, CellsRel.one ?_⟩
    have hlen : (((List.range len).map fun i => (V i).2).map f).length = len := by simp
    have hgetD : ∀ i, i < len → (((List.range len).map fun i => (V i).2).map f).getD i [] = f (V i).2 := fun i hi => by
      simp [List.getD, List.getElem?_map, List.getElem?_range hi]
    have hcell : ∀ i j, i < len → j < sz → w.cell? ((a.add (i * sz)).add j) = some ((V i).1.getD j undef) := fun i j hi hj => by
      obtain ⟨_, h2, h3⟩ := World.cells?_some (hV i hi).1
      rw [h3 j hj, List.getD, List.getElem?_eq_getElem (by omega)]
      rfl
    have hspot : 0 < len → a.spot = none := fun h0 => by
      have := World.cell?_spot (hcell 0 0 h0 hsz)
      simpa [Addr.add] using this
    have hadd : ∀ i j : Nat, a.spot = none → (a.add i).add j = ⟨a.block, a.off + (i + j), none⟩ := fun i j hs => by
      obtain ⟨b, o, s⟩ := a
      simp only at hs
      subst hs
      unfold Addr.add
      by_cases hi : i = 0
      · subst hi
        by_cases hj : j = 0
        · subst hj; simp
        · simp [hj]
      · by_cases hj : j = 0
        · subst hj; simp [hi]
        · simp [hi, hj]; omega
    have key := Rel.slice (w := w) (κ := κ) (pv := pv) (es := ((List.range len).map fun i => (V i).2).map f) (tag := .shared) (a := some a) (cap := cap) a.block a.off sz (fun i j => (V i).1.getD j undef)
      (fun i hi => by rw [hlen] at hi; rw [hgetD i hi, hf]) (fun hne => by
        have h0 : 0 < len := by
          apply Nat.pos_of_ne_zero
          intro h0
          apply hne
          rw [h0]; rfl
        rw [← hspot h0]) (by rw [hlen]; exact hcap) (by rw [hlen]; simp only [maxLen] at hmax; omega)
      (fun i j _ _ => hpv _ _) (fun i j hi hj => by
        rw [hlen] at hi
        have h1 := hcell i j hi hj
        rw [hadd _ _ (hspot (by omega))] at h1
        exact h1)
      (fun i j hi hj => by
        rw [hlen] at hi
        rw [hgetD i hi]
        exact (hV i hi).2.2 j (by rw [hf]; exact hj)) trivial
    rw [hlen] at key
    exact key
end

/-! ### At the program's types -/

instance : Inhabited Ty := ⟨.mk 0 [] []⟩
instance : Inhabited Carrier := ⟨⟨[], []⟩⟩
instance : Inhabited Decl := ⟨⟨[], .mk 0 [] []⟩⟩

theorem laidOut : laidOutB Tryz.prog = true := by kernel_rfl
theorem cl9 : Tryz.prog.cellsOf 9 = 1 := by kernel_rfl
theorem cl28 : Tryz.prog.cellsOf 28 = 3 := by kernel_rfl
theorem cl91 : Tryz.prog.cellsOf 91 = 2 := by kernel_rfl
theorem cl60 : Tryz.prog.cellsOf 60 = 4 := by kernel_rfl
theorem cl25 : Tryz.prog.cellsOf 25 = 2 := by kernel_rfl
theorem cl3 : Tryz.prog.cellsOf 3 = 1 := by kernel_rfl
theorem cl26 : Tryz.prog.cellsOf 26 = 1 := by kernel_rfl
theorem cl49 : Tryz.prog.cellsOf 49 = 1 := by kernel_rfl
theorem cl22 : Tryz.prog.cellsOf 22 = 1 := by kernel_rfl
theorem cl23 : Tryz.prog.cellsOf 23 = 1 := by kernel_rfl
end Abs
end Go.Proofs.YtiiaccpcoclklaaGreat
namespace Go.Proofs.YtiiaccpcoclklaaGreat
namespace Abs
open Go Go.Proofs Go.Deep Go.WideShapes

section
variable {H : Type} {enc : TypeId × Value → H} {w : World} {base : Nat} {spare : Nat → Bool} {held : Bool} {κ : Kap} {pv : Prv}

theorem get1 {α : Type} {xs : List α} {i n : Nat} (h : xs.length = n) (hi : i < n) : ∃ y, xs[i]? = some y := ⟨xs[i]'(by omega), List.getElem?_eq_getElem (by omega)⟩

theorem len_encTy (t : Ty) : (encTy t).length = 3 := by rw [encTy_eq]; rfl
set_option maxRecDepth 100000 in
theorem reads_ty (hpv : ∀ b o, ¬ pv b o) (fuel : Nat) : Reads enc Tryz.prog w base spare held κ pv 28 encTy fuel := by
  induction fuel using Nat.strongRecOn with
  | _ fuel ih =>
    intro cs x h
    obtain ⟨xs, n, rfl, _, hl, hlen, hf⟩ := DataW.trod_struct Tryz.underlying28 h
    rw [cl28] at hl
    match cs, hl with
    | [c0, c1, c2], _ =>
      obtain ⟨y0, e0⟩ := get1 (i := 0) hlen (by decide)
      obtain ⟨y1, e1⟩ := get1 (i := 1) hlen (by decide)
      obtain ⟨y2, e2⟩ := get1 (i := 2) hlen (by decide)
      have h0 := hf 0 _ rfl
      have h1 := hf 1 _ rfl
      have h2 := hf 2 _ rfl
      simp only [e0, cl3, List.drop_zero, List.take_succ_cons, List.take_zero] at h0
      simp only [e1, cl9, List.drop_succ_cons, List.drop_zero, List.take_succ_cons, List.take_zero] at h1
      simp only [e2, cl26, List.drop_succ_cons, List.drop_zero, List.take_succ_cons, List.take_zero] at h2
      obtain ⟨k, hk⟩ := reads_int (κ := κ) (pv := pv) Tryz.underlying3 n _ _ h0
      obtain ⟨nm, hn⟩ := reads_str (κ := κ) (pv := pv) Tryz.underlying9 n _ _ h1
      obtain ⟨ks, hks⟩ := reads_slice (f := encTy) Tryz.underlying26 cl28 (by decide) len_encTy hpv (fun m hm => ih m (by omega)) _ _ h2
      refine ⟨.mk k nm ks, ?_⟩
      have := hk.app (hn.app hks)
      rw [encTy_eq]
      exact this
set_option maxRecDepth 100000 in
theorem reads_strs (hpv : ∀ b o, ¬ pv b o) (fuel : Nat) : Reads enc Tryz.prog w base spare held κ pv 49 (fun l : List Str => [.slice (l.map encS) .shared]) fuel :=
  reads_slice (f := encS) Tryz.underlying49 cl9 (by decide) (fun _ => rfl) hpv (fun m _ => reads_str Tryz.underlying9 m)
set_option maxRecDepth 100000 in
theorem reads_carrier (hpv : ∀ b o, ¬ pv b o) (fuel : Nat) : Reads enc Tryz.prog w base spare held κ pv 91 encCarrier fuel := by
  intro cs x h
  obtain ⟨xs, n, rfl, _, hl, hlen, hf⟩ := DataW.trod_struct Tryz.underlying91 h
  rw [cl91] at hl
  match cs, hl with
  | [c0, c1], _ =>
    obtain ⟨y0, e0⟩ := get1 (i := 0) hlen (by decide)
    obtain ⟨y1, e1⟩ := get1 (i := 1) hlen (by decide)
    have h0 := hf 0 _ rfl
    have h1 := hf 1 _ rfl
    simp only [e0, cl9, List.drop_zero, List.take_succ_cons, List.take_zero] at h0
    simp only [e1, cl49, List.drop_succ_cons, List.drop_zero, List.take_succ_cons, List.take_zero] at h1
    obtain ⟨nm, hn⟩ := reads_str (κ := κ) (pv := pv) Tryz.underlying9 n _ _ h0
    obtain ⟨es, hes⟩ := reads_strs hpv n _ _ h1
    exact ⟨⟨nm, es⟩, hn.app hes⟩
set_option maxRecDepth 100000 in
theorem reads_decl (hpv : ∀ b o, ¬ pv b o) (fuel : Nat) : Reads enc Tryz.prog w base spare held κ pv 60 encDecl fuel := by
  intro cs x h
  obtain ⟨xs, n, rfl, _, hl, hlen, hf⟩ := DataW.trod_struct Tryz.underlying60 h
  rw [cl60] at hl
  match cs, hl with
  | [c0, c1, c2, c3], _ =>
    obtain ⟨y0, e0⟩ := get1 (i := 0) hlen (by decide)
    obtain ⟨y1, e1⟩ := get1 (i := 1) hlen (by decide)
    have h0 := hf 0 _ rfl
    have h1 := hf 1 _ rfl
    simp only [e0, cl9, List.drop_zero, List.take_succ_cons, List.take_zero] at h0
    simp only [e1, cl28, List.drop_succ_cons, List.drop_zero, List.take_succ_cons, List.take_zero] at h1
    obtain ⟨nm, hn⟩ := reads_str (κ := κ) (pv := pv) Tryz.underlying9 n _ _ h0
    obtain ⟨t, ht⟩ := reads_ty hpv n _ _ h1
    refine ⟨⟨nm, t⟩, ?_⟩
    have := hn.app ht
    rw [encTy_eq] at this
    exact this
def encEnv (e : Env) : List AV := [.slice (e.carriers.map encCarrier) .shared, .slice (e.names.map encDecl) .shared]
set_option maxRecDepth 100000 in
theorem reads_env (hpv : ∀ b o, ¬ pv b o) (fuel : Nat) : Reads enc Tryz.prog w base spare held κ pv 25 encEnv fuel := by
  intro cs x h
  obtain ⟨xs, n, rfl, _, hl, hlen, hf⟩ := DataW.trod_struct Tryz.underlying25 h
  rw [cl25] at hl
  match cs, hl with
  | [c0, c1], _ =>
    obtain ⟨y0, e0⟩ := get1 (i := 0) hlen (by decide)
    obtain ⟨y1, e1⟩ := get1 (i := 1) hlen (by decide)
    have h0 := hf 0 _ rfl
    have h1 := hf 1 _ rfl
    simp only [e0, cl22, List.drop_zero, List.take_succ_cons, List.take_zero] at h0
    simp only [e1, cl23, List.drop_succ_cons, List.drop_zero, List.take_succ_cons, List.take_zero] at h1
    obtain ⟨cs, hcs⟩ := reads_slice (f := encCarrier) Tryz.underlying22 cl91 (by decide) (fun _ => rfl) hpv (fun m _ => reads_carrier hpv m) _ _ h0
    obtain ⟨ds, hds⟩ := reads_slice (f := encDecl) Tryz.underlying23 cl60 (by decide) (fun _ => rfl) hpv (fun m _ => reads_decl hpv m) _ _ h1
    exact ⟨⟨cs, ds⟩, hcs.app hds⟩

set_option maxRecDepth 100000 in
/-- A struct that came in. -/
theorem reads_agg {α : Type} {r : Reach} {b0 : Nat} {t : TypeId} {fs : Array Field} {f : α → List AV} {v : Value} {d : DataW H} {p : List MemPlace} (hs : Tryz.prog.underlying t = some (.struct fs)) (hv : Value.okWide Tryz.prog w r b0 t v)
    (h : DataW.Trod enc Tryz.prog w base spare held t v d p) (hr : ∀ fuel, Reads enc Tryz.prog w base spare held κ pv t f fuel) : ∃ a : α, Rel w κ pv (.agg (f a)) v := by
  obtain ⟨cs, rfl, hsz⟩ := okWide_struct hs hv
  obtain ⟨fuel, hf⟩ := h
  obtain ⟨a, h1, h2⟩ := hr fuel _ _ hf
  simp only [Value.cells] at h1 h2
  refine ⟨a, ?_⟩
  have := Rel.agg (w := w) (κ := κ) (pv := pv) h1 h2
  simpa using this
set_option maxRecDepth 100000 in
theorem reads_string {r : Reach} {b0 : Nat} {v : Value} {d : DataW H} {p : List MemPlace} (hv : Value.okWide Tryz.prog w r b0 9 v)
    (h : DataW.Trod enc Tryz.prog w base spare held 9 v d p) : ∃ s : Str, s.length ≤ 9223372036854775807 ∧ Rel w κ pv (.str s) v := by
  obtain ⟨s, rfl, rfl, rfl, hs⟩ := Go.ChangeMaps.open_string Tryz.underlying9 hv h
  refine ⟨s.data.toList, ?_, ?_⟩
  · have : s.data.size ≤ maxLen := hs
    simpa [maxLen] using this
  · have := Rel.str (w := w) (κ := κ) (pv := pv) (s := s.data.toList) (by
      have : s.data.size ≤ maxLen := hs
      simpa [maxLen] using this)
    simpa using this
end

/-! ### From a contract to a call that writes nothing that was there -/

set_option maxRecDepth 100000 in
theorem entry0 (w : World) : Entry [] (fun _ _ => False) [] w :=
  ⟨rfl, fun l _ => rfl, fun l b h => by simp [at?] at h, fun l l' b h => by simp [at?] at h, fun l b h => by simp [at?] at h, fun _ _ h => h.elim, fun _ _ _ h => h.elim⟩
set_option maxRecDepth 100000 in
theorem pv0 : ∀ b o, ¬ pvOf (fun _ _ => False) [] [] b o := fun b o h => by
  rcases h with h | ⟨l, h, _⟩
  · exact h
  · simp [at?] at h
set_option maxRecDepth 100000 in
theorem calls_of {f : Nat} {args : List AV} {vs : List Value} {w : World} (h : ACalls Tryz.prog f args [] (.bool true) []) (hl : vs.length = args.length)
    (hr : ∀ j, j < args.length → Rel w [] (pvOf (fun _ _ => False) [] []) (args.getD j .unk) (vs.getD j undef)) :
    Calls Tryz.prog f vs.toArray w fun e w' => e = .returned (.bool true) ∧ Go.RowKit.Below w.heap.size w w' := by
  refine (h [] (fun _ _ => False) w vs (entry0 w) hl hr).mono fun e w' ⟨v, κ', he, hL, hv⟩ => ?_
  cases hv
  exact ⟨he, hL.os, hL.tape, hL.output, hL.evo.size, fun k hk => hL.kept k hk fun l h => by simp [at?] at h⟩

theorem names_short {env : Env} {w : World} {κ : Kap} {pv : Prv} {v : Value} (h : Rel w κ pv (.agg (encEnv env)) v) : ∀ d ∈ env.names, d.name.length ≤ 9223372036854775807 := by
  cases h with
  | @agg _ vs hl hj =>
    have h1 := hj 1 (by simp [encEnv])
    intro d hd
    obtain ⟨i, hi, rfl⟩ := List.mem_iff_getElem.1 hd
    have e : (encEnv env).getD 1 .unk = .slice (env.names.map encDecl) .shared := rfl
    rw [e] at h1
    generalize vs.getD 1 undef = u at h1
    cases h1 with
    | slice b off sz f h1 h2 h3 h3' h4 h5 h6 _ =>
      have hi' : i < (env.names.map encDecl).length := by simpa using hi
      have eg : (env.names.map encDecl).getD i [] = encDecl env.names[i] := by simp [List.getD, List.getElem?_map, List.getElem?_eq_getElem hi]
      have hsz := h1 i hi'
      rw [eg] at hsz
      have hz : sz = 4 := hsz.symm
      have := h6 i 0 hi' (by omega)
      rw [eg] at this
      have e2 : (encDecl env.names[i]).getD 0 .unk = .str env.names[i].name := rfl
      rw [e2] at this
      generalize f i 0 = g at this
      cases this
      assumption
end Abs
end Go.Proofs.YtiiaccpcoclklaaGreat
namespace Go.Proofs.YtiiaccpcoclklaaGreat
open Go Go.Proofs
theorem and2 {a b : Bool} (h : a = true) (k : b = true) : (a && b) = true := by rw [h, k]; rfl
theorem pf2 : (laidOutB Tryz.prog) = true := by kernel_rfl
theorem pf3 : (mapsRowed Tryz.prog) = true := by kernel_rfl
theorem pf7 : ((Tryz.prog.stops == [])) = true := by kernel_rfl
theorem pf9 : ((Tryz.prog.stopKnobs == [])) = true := by kernel_rfl
theorem pf25 : (Tryz.prog.stopsHeard) = true := by kernel_rfl
theorem pf26 : (Tryz.prog.mayEnter) = true := by kernel_rfl
end Go.Proofs.YtiiaccpcoclklaaGreat
namespace Go.Proofs.YtiiaccpcoclklaaGreat
open Go Go.Proofs
theorem TypingUnions_k1 : (Rows.typingUnionsRow.wf (OpenSpec.ofChange Rows.typingUnionsSpec)) = true := by kernel_rfl
theorem TypingUnions_k4 : (Tryz.f15.params.all (Tryz.prog.readableRec ·)) = true := by kernel_rfl
theorem TypingUnions_k5 : (namedTie Tryz.prog Rows.typingUnionsRow.named Rows.typingUnionsSpec.vars) = true := by kernel_rfl
theorem TypingUnions_k6 : ((Rows.typingUnionsRow.stops == [])) = true := by kernel_rfl
theorem TypingUnions_k8 : ((Rows.typingUnionsRow.knobs == [])) = true := by kernel_rfl
theorem TypingUnions_k10 : ((Rows.typingUnionsRow.inPlace == Tryz.prog.inPlace 15)) = true := by kernel_rfl
theorem TypingUnions_k11 : ((Rows.typingUnionsRow.unfollowed == Tryz.prog.unfollowed 15)) = true := by kernel_rfl
theorem TypingUnions_k12 : ((Rows.typingUnionsRow.recurses == Tryz.prog.recurses 15)) = true := by kernel_rfl
theorem TypingUnions_k13 : ((Rows.typingUnionsRow.named == Tryz.prog.varsNamed 15)) = true := by kernel_rfl
theorem TypingUnions_k14 : ((Rows.typingUnionsRow.maps == (Tryz.f15.params.toList ++ Rows.typingUnionsSpec.plain.varTypes Tryz.prog).any (Tryz.prog.mapsRec ·))) = true := by kernel_rfl
theorem TypingUnions_k15 : ((Rows.typingUnionsRow.ifaces == (Tryz.f15.params.toList ++ Rows.typingUnionsSpec.plain.varTypes Tryz.prog).any (Tryz.prog.ifacesRec ·))) = true := by kernel_rfl
theorem TypingUnions_k16 : ((Rows.typingUnionsRow.mapsOut == Tryz.prog.mapsAmong Tryz.f15.resultTypes.toList)) = true := by kernel_rfl
theorem TypingUnions_k17 : ((Rows.typingUnionsRow.loops == (Tryz.f15.params.toList ++ Rows.typingUnionsSpec.plain.varTypes Tryz.prog).any (Tryz.prog.loopsFrom ·))) = true := by kernel_rfl
theorem TypingUnions_k18 : ((Rows.typingUnionsRow.wideKeys == (Tryz.f15.params.toList ++ Rows.typingUnionsSpec.plain.varTypes Tryz.prog ++ Tryz.f15.resultTypes.toList).any (Tryz.prog.wideKeysFrom ·))) = true := by kernel_rfl
theorem TypingUnions_k19 : (Rows.typingUnionsSpec.vars.all (Tryz.prog.varReadable ·)) = true := by kernel_rfl
theorem TypingUnions_k20 : (Tryz.f15.resultTypes.all (fun t => Tryz.prog.readableRec t && decide (t < Tryz.prog.types.size))) = true := by kernel_rfl
theorem TypingUnions_k21 : ((Rows.typingUnionsRow.ifacesOut == Tryz.f15.resultTypes.toList.any (Tryz.prog.ifacesRec ·))) = true := by kernel_rfl
theorem TypingUnions_k22 : ((Rows.typingUnionsRow.loopsOut == Tryz.f15.resultTypes.toList.any (Tryz.prog.loopsFrom ·))) = true := by kernel_rfl
theorem TypingUnions_k23 : ((Rows.typingUnionsRow.plainKeys == Tryz.prog.plainKeys)) = true := by kernel_rfl
theorem TypingUnions_k24 : (Rows.typingUnionsRow.shortTexts.isNone) = true := by kernel_rfl
theorem TypingUnions_k27 : ((Rows.typingUnionsRow.lifted == Tryz.prog.liftsFinal)) = true := by kernel_rfl
theorem TypingUnions_k28 : ((Tryz.prog.make == some Rows.typingUnionsRow.make)) = true := by kernel_rfl
theorem TypingUnions_k29 : ((Rows.typingUnionsRow.kinds == (if Rows.typingUnionsRow.domain.isEmpty then [] else Tryz.f15.params.toList.map fun t => match Tryz.prog.underlying t with | some (.int k) => some k | _ => none))) = true := by kernel_rfl
theorem TypingUnions_k30 : ((Rows.typingUnionsRow.pinned == Rows.typingUnionsRow.pinnedBy)) = true := by kernel_rfl
theorem TypingUnions_k31 : ((Rows.typingUnionsRow.veiled == (Tryz.f15.params.toList ++ Rows.typingUnionsSpec.plain.varTypes Tryz.prog ++ Tryz.f15.resultTypes.toList).any (Tryz.prog.veiledRec ·))) = true := by kernel_rfl
theorem TypingUnions_k32 : (Rows.typingUnionsRow.veiledFits Tryz.prog Tryz.f15.params.toList (Tryz.f15.params.toList ++ Rows.typingUnionsSpec.plain.varTypes Tryz.prog ++ Tryz.f15.resultTypes.toList)) = true := by kernel_rfl
set_option maxRecDepth 100000 in
theorem TypingUnions_facts : joinedFacts Tryz.prog 15 Tryz.f15 Rows.typingUnionsSpec Rows.typingUnionsRow = true := by
  unfold joinedFacts
  exact and2 (and2 (and2 (and2 (and2 (and2 (and2 (and2 (and2 (and2 (and2 (and2 (and2 (and2 (and2 (and2 (and2 (and2 (and2 (and2 (and2 (and2 (and2 (and2 (and2 (and2 (and2 (and2 (and2 (and2 (and2 TypingUnions_k1 pf2) pf3) TypingUnions_k4) TypingUnions_k5) TypingUnions_k6) pf7) TypingUnions_k8) pf9) TypingUnions_k10) TypingUnions_k11) TypingUnions_k12) TypingUnions_k13) TypingUnions_k14) TypingUnions_k15) TypingUnions_k16) TypingUnions_k17) TypingUnions_k18) TypingUnions_k19) TypingUnions_k20) TypingUnions_k21) TypingUnions_k22) TypingUnions_k23) TypingUnions_k24) pf25) pf26) TypingUnions_k27) TypingUnions_k28) TypingUnions_k29) TypingUnions_k30) TypingUnions_k31) TypingUnions_k32
set_option maxRecDepth 100000 in
theorem TypingUnions_named : Tryz.prog.funcNamed Rows.typingUnionsRow.func = some 15 := by kernel_rfl
set_option maxRecDepth 100000 in
theorem TypingUnions_inst : Tryz.f15.isInstance Tryz.prog Rows.typingUnionsRow.origin Rows.typingUnionsRow.targs := of_decide_eq_true (by kernel_rfl)
set_option maxRecDepth 100000 in
theorem TypingUnions_wrap : Tryz.f15.isWrapper Tryz.prog Rows.typingUnionsRow.wrapper Rows.typingUnionsRow.mainSum := by unfold Func.isWrapper; first | (rw [if_pos (by decide +kernel)]; kernel_rfl) | (rw [if_neg (by decide +kernel)]; exact ⟨rfl, rfl⟩)
end Go.Proofs.YtiiaccpcoclklaaGreat

/-
  The table of types: the program's rows and the document's come to the same plain rows. Conditions: kids' types have the shapes of valid types; lemmas without a program. The document's rows come to the plain rows. Conditions: kids' types have the shapes of valid types; lemmas without a program. The type of a term: the plain function, and that the program's checker and the document's function come to it. Conditions: valid environments and terms; lemmas without a program. The program's checker and the document's function come to the plain type of a term. Conditions: valid environments and terms; lemmas without a program.
-/
import Derived.Test.YtiiaccpcoclklaaGreatCP5xe302ce
set_option linter.unusedSimpArgs false
set_option linter.unusedVariables false
namespace Go.Proofs.YtiiaccpcoclklaaGreat
namespace Abs
open Go
theorem idx0 {α : Type} (a : α) (l : List α) : idx (a :: l) 0 = some a := rfl
theorem idx1 {α : Type} (a b : α) (l : List α) : idx (a :: b :: l) 1 = some b := rfl
theorem ty_eta (t : Ty) : Ty.mk t.kind t.name t.kids = t := by cases t; rfl
theorem tyEq_iff (a b : Ty) : tyEq a b = true ↔ a = b := ⟨tyEq_eq a b, fun h => h ▸ tyEq_refl a⟩
theorem tyEq_comm (a b : Ty) : tyEq a b = tyEq b a := by
 rw [Bool.eq_iff_iff, tyEq_iff, tyEq_iff]
 exact ⟨Eq.symm, Eq.symm⟩
theorem tyEq_set (a b : Ty) : tyEq (tySet a) (tySet b) = tyEq a b := by simp [tySet, tyEq, tysEq]
theorem kindB {t : Ty} (h : Top t) : (t.kind == 2) = tyEq t tyBool := by
 rcases h with rfl | h
 ·rfl
 ·cases h <;> rfl
theorem kindI {t : Ty} (h : Top t) : (t.kind == 1) = tyEq t tyInt := by
 rcases h with rfl | h
 ·rfl
 ·cases h <;> rfl
theorem kindS {t : Ty} (h : Top t) : (t.kind == 5) = (setO t).isSome := by
 rcases h with rfl | h
 ·rfl
 ·cases h <;> rfl
theorem allKB {l : List Ty} (h : ∀ t ∈ l, Top t) : allK 2 l = l.all fun x => tyEq x tyBool := by
 unfold allK
 rw [Bool.eq_iff_iff, List.all_eq_true, List.all_eq_true]
 exact ⟨fun k t ht => by rw [← kindB (h t ht)]; exact k t ht, fun k t ht => by rw [kindB (h t ht)]; exact k t ht⟩
theorem allKI {l : List Ty} (h : ∀ t ∈ l, Top t) : allK 1 l = l.all fun x => tyEq x tyInt := by
 unfold allK
 rw [Bool.eq_iff_iff, List.all_eq_true, List.all_eq_true]
 exact ⟨fun k t ht => by rw [← kindI (h t ht)]; exact k t ht, fun k t ht => by rw [kindI (h t ht)]; exact k t ht⟩
theorem each_row (l : List Ty) (k : Int) (nm : Str) (ks : List Ty) (q : Int) : Row (fun n => typing_each_1 n l k nm ks q) (onlyIf (allK q l) (.mk k nm ks)) := by
 unfold typing_each_1 slices_ContainsFunc_Type_2 slices_IndexFunc_Type_2
 refine Row.of (.mk k nm ks) (allK q l) ?_ rfl
 refine Ev.bind (a := l.any fun x => x.kind != q) (Ev.bind (loopFind l (fun n k i => slices_IndexFunc_Type_2_L0 n l q k i) (fun _ x => some (x.kind != q)) (fun x => x.kind != q) (fun n k i => rfl) (fun x _ => Ev.ret _)) ?_) ?_
 ·rw [findI_ge _ _ _ (Int.le_refl _)]
  exact Ev.ret _
 ·have : (!(l.any fun x => x.kind != q)) = allK q l := by
   unfold allK
   rw [show (fun x : Ty => x.kind != q) = fun x => !(x.kind == q) from rfl, any_not, Bool.not_not]
  rw [this]
  exact Ev.ret _
theorem alike_ev (a : Ty) (l : List Ty) : Ev (fun n => typing_alike n (a :: l)) (a.kind != 2 && (a :: l).all fun x => tyEq x a) := by
 unfold typing_alike slices_ContainsFunc_Type_3 slices_IndexFunc_Type_3
 simp only [idx0, Option.bind_some]
 refine Ev.bind (a := a.kind != 2 && (a :: l).all fun x => tyEq x a) ?_ (Ev.ret _)
 cases a.kind != 2 with
 | false => exact Ev.ret _
 | true =>
  simp only [cond_true, Bool.true_and]
  refine Ev.bind (a := (a :: l).any fun x => !(tyEq x a)) (Ev.bind (loopFind (a :: l) (fun n k i => slices_IndexFunc_Type_3_L0 n (a :: l) (a :: l) k i) (fun n x => typing_alike_1 n x (a :: l)) (fun x => !(tyEq x a)) (fun n k i => rfl) (fun x _ => ?_)) ?_) ?_
  ·unfold typing_alike_1
   simp only [idx0, Option.bind_some]
   exact Ev.bind (equal_ev x a) (Ev.ret _)
  ·rw [findI_ge _ _ _ (Int.le_refl _)]
   exact Ev.ret _
  ·rw [any_not, Bool.not_not]
   exact Ev.ret _
theorem alike2_ev (a b : Ty) : Ev (fun n => typing_alike n [a, b]) (a.kind != 2 && tyEq a b) := by
 have := alike_ev a [b]
 simp only [List.all_cons, List.all_nil, Bool.and_true, tyEq_refl, Bool.true_and] at this
 rwa [tyEq_comm b a] at this
section
variable {a b : Ty} (ha : Top a) (hb : Top b)
theorem body1_row (hs : (setO a).isSome = true) : Row (fun n => typing_body_1_1 n [a, b]) (onlyIf ((setO a).isSome && b.kind == 2) tyBool) := by
 rw [hs]
 exact Row.of tyBool (b.kind == 2) (Ev.ret _) rfl
theorem body2_row (hs : (setO a).isSome = true) : Row (fun n => typing_body_1_2 n [a, b]) (onlyIf ((setO a).isSome && b.kind == 2) a) := by
 rw [hs]
 exact Row.of a (b.kind == 2) (Ev.ret _) rfl
theorem same_row : Row (fun n => typing_rows_1 n [a, b]) (onlyIf (a.kind != 2 && tyEq a b) tyBool) :=
 Row.of tyBool _ (Ev.bind (alike2_ev a b) (Ev.ret _)) rfl
include hb in
theorem member_row : Row (fun n => typing_member n [a, b]) ((setO b).bind fun e => onlyIf (tyEq a e) tyBool) := by
 unfold typing_member
 simp only [idx0, idx1, Option.bind_some, elementOf_eq _ hb]
 cases setO b with
 | none => exact .no tyBool (Ev.ret _) rfl
 | some e => exact .of tyBool (tyEq a e) (Ev.bind (Ev.bind (equal_ev a e) (Ev.ret _)) (Ev.ret _)) rfl
include ha in
theorem setB_and : (a.kind == 5 && (a.kind != 2 && tyEq a b)) = ((setO a).isSome && tyEq a b) := by
 rw [kindS ha]
 cases hs : setO a with
 | none => rfl
 | some e => obtain ⟨_, rfl⟩ := setO_good ha hs; rfl
include ha in
theorem sets1_row : Row (fun n => typing_sets_1_1 n [a, b]) (onlyIf ((setO a).isSome && tyEq a b) tyBool) := by
 rw [← setB_and ha]
 unfold typing_sets_1_1
 simp only [idx0, Option.bind_some]
 refine .of tyBool _ (Ev.bind (a := a.kind == 5 && (a.kind != 2 && tyEq a b)) ?_ (Ev.ret _)) rfl
 cases a.kind == 5 with
 | false => exact Ev.ret _
 | true => exact Ev.bind (alike2_ev a b) (Ev.ret _)
include ha in
theorem sets2_row : Row (fun n => typing_sets_1_2 n [a, b]) (onlyIf ((setO a).isSome && tyEq a b) a) := by
 rw [← setB_and ha]
 unfold typing_sets_1_2
 simp only [idx0, Option.bind_some]
 refine .of a _ (Ev.bind (a := (a.kind == 5 && (a.kind != 2 && tyEq a b), a.kind, a.name, a.kids)) ?_ (by simp only [ty_eta]; exact Ev.ret _)) rfl
 cases a.kind == 5 with
 | false => exact Ev.ret _
 | true => exact Ev.bind (alike2_ev a b) (Ev.ret _)
theorem pair_row : Row (fun n => typing_rows_6 n [a, b]) (onlyIf (a.kind != 2 && b.kind != 2) (tyPair a b)) := by
 unfold typing_rows_6
 simp only [idx0, idx1, Option.bind_some]
 cases a.kind != 2 with
 | false => exact .no (tyPair a b) (Ev.ret _) rfl
 | true => exact .of (tyPair a b) (b.kind != 2) (Ev.ret _) rfl
theorem set_row (l : List Ty) : Row (fun n => typing_rows_7 n (a :: l)) (onlyIf (a.kind != 2 && (a :: l).all fun x => tyEq x a) (tySet a)) := by
 unfold typing_rows_7
 simp only [idx0, Option.bind_some]
 exact .of (tySet a) _ (Ev.bind (alike_ev a l) (Ev.ret _)) rfl
include ha hb in
theorem two1_row : Row (fun n => typing_two_1_1 n [a, b]) ((setO a).bind fun x => (setO b).map fun y => tySet (tyPair x y)) := by
 unfold typing_two_1_1
 simp only [idx0, idx1, Option.bind_some, elementOf_eq _ ha, elementOf_eq _ hb]
 cases setO a with
 | none => exact .no tyZero (Ev.ret _) rfl
 | some x =>
  cases setO b with
  | none => exact .no tyZero (Ev.ret _) rfl
  | some y => exact .yes (tySet (tyPair x y)) (Ev.ret _) rfl
include ha hb in
theorem two2_row : Row (fun n => typing_two_1_2 n [a, b]) ((setO a).bind fun x => (setO b).map fun y => tySet (tySet (tyPair x y))) := by
 unfold typing_two_1_2
 simp only [idx0, idx1, Option.bind_some, elementOf_eq _ ha, elementOf_eq _ hb]
 cases setO a with
 | none => exact .no tyZero (Ev.ret _) rfl
 | some x =>
  cases setO b with
  | none => exact .no tyZero (Ev.ret _) rfl
  | some y => exact .yes (tySet (tySet (tyPair x y))) (Ev.ret _) rfl
include ha in
theorem rel1_row : Row (fun n => typing_onRelation_1_1 n [a, b]) (onlyIf ((relO a).isSome && tyEq a b) a) := by
 unfold typing_onRelation_1_1
 simp only [idx0, Option.bind_some, sides_eq _ ha]
 cases hr : relO a with
 | none => exact .no tyZero (Ev.ret _) rfl
 | some x =>
  obtain ⟨x, y⟩ := x
  obtain ⟨_, _, rfl⟩ := relO_good ha hr
  refine .of _ (tyEq (tySet (tyPair x y)) b) (Ev.bind (a := (tySet (tyPair x y), tyEq (tySet (tyPair x y)) b)) ?_ (Ev.ret _)) rfl
  show Ev (fun n => (typing_alike n [tySet (tyPair x y), b]).bind fun x2 => some (tySet (tyPair x y), x2)) _
  exact Ev.bind (alike2_ev (tySet (tyPair x y)) b) (Ev.ret _)
include ha hb in
theorem rel2_row : Row (fun n => typing_onRelation_1_2 n [a, b]) ((relO a).bind fun x => (relO b).bind fun y => onlyIf (tyEq x.2 y.1) (tySet (tyPair x.1 y.2))) := by
 unfold typing_onRelation_1_2 typing_rows_9
 simp only [idx0, idx1, Option.bind_some, sides_eq _ ha, sides_eq _ hb]
 cases relO a with
 | none => exact .no tyZero (Ev.ret _) rfl
 | some x =>
  cases relO b with
  | none => exact .no (tySet (tyPair x.1 tyZero)) (Ev.ret _) rfl
  | some y => exact .of (tySet (tyPair x.1 y.2)) (tyEq x.2 y.1) (Ev.bind (Ev.bind (Ev.bind (equal_ev x.2 y.1) (Ev.ret _)) (Ev.ret _)) (Ev.ret _)) rfl
include ha hb in
theorem res1_row : Row (fun n => typing_rows_3 n [a, b]) ((setO a).bind fun x => (relO b).bind fun y => onlyIf (tyEq x y.1) b) := by
 unfold typing_rows_3
 simp only [idx0, idx1, Option.bind_some, elementOf_eq _ ha, sides_eq _ hb]
 cases setO a with
 | none => exact .no b (by simp only [elP, cond_false, Option.bind_some, ty_eta]; exact Ev.ret _) rfl
 | some x =>
  cases relO b with
  | none => exact .no b (by simp only [elP, siP, cond_true, cond_false, Option.bind_some, ty_eta]; exact Ev.ret _) rfl
  | some y =>
   refine .of b (tyEq x y.1) ?_ rfl
   simp only [elP, siP, cond_true]
   exact Ev.bind (a := (tyEq x y.1, b.kind, b.name, b.kids)) (Ev.bind (equal_ev x y.1) (Ev.ret _)) (by simp only [ty_eta]; exact Ev.ret _)
include ha hb in
theorem rel3_row : Row (fun n => typing_onRelation_1_3 n [a, b]) ((relO a).bind fun x => (setO b).bind fun y => onlyIf (tyEq y x.2) a) := by
 unfold typing_onRelation_1_3 typing_rows_4
 simp only [idx0, idx1, Option.bind_some, elementOf_eq _ hb, sides_eq _ ha]
 cases relO a with
 | none => exact .no tyZero (Ev.ret _) rfl
 | some x =>
  cases setO b with
  | none => exact .no a (by simp only [elP, siP, cond_false, Option.bind_some, ty_eta, Bool.not_true]; exact Ev.ret _) rfl
  | some y =>
   refine .of a (tyEq y x.2) ?_ rfl
   simp only [elP, siP, cond_true, Bool.not_true, cond_false]
   exact Ev.bind (a := (a, tyEq y x.2)) (Ev.bind (a := (tyEq y x.2, a.kind, a.name, a.kids)) (Ev.bind (equal_ev y x.2) (Ev.ret _)) (by simp only [ty_eta]; exact Ev.ret _)) (Ev.ret _)
include ha in
theorem pow_row : Row (fun n => typing_onSet_1_1 n [a]) ((setO a).map fun x => tySet (tySet x)) := by
 unfold typing_onSet_1_1
 simp only [idx0, Option.bind_some, elementOf_eq _ ha]
 cases setO a with
 | none => exact .no tyZero (Ev.ret _) rfl
 | some x => exact .yes (tySet (tySet x)) (Ev.ret _) rfl
include ha in
theorem card_row : Row (fun n => typing_onSet_1_2 n [a]) ((setO a).map fun _ => tyInt) := by
 unfold typing_onSet_1_2
 simp only [idx0, Option.bind_some, elementOf_eq _ ha]
 cases setO a with
 | none => exact .no tyZero (Ev.ret _) rfl
 | some x => exact .yes tyInt (Ev.ret _) rfl
include ha in
theorem min_row : Row (fun n => typing_onSet_1_3 n [a]) ((setO a).bind fun x => onlyIf (x.kind == 1) tyInt) := by
 unfold typing_onSet_1_3
 simp only [idx0, Option.bind_some, elementOf_eq _ ha]
 cases setO a with
 | none => exact .no tyZero (Ev.ret _) rfl
 | some x => exact .of tyInt (x.kind == 1) (Ev.ret _) rfl
include ha in
theorem dom_row : Row (fun n => typing_onRelation_1_4 n [a]) ((relO a).map fun x => tySet x.1) := by
 unfold typing_onRelation_1_4
 simp only [idx0, Option.bind_some, sides_eq _ ha]
 cases relO a with
 | none => exact .no tyZero (Ev.ret _) rfl
 | some x => exact .yes (tySet x.1) (Ev.ret _) rfl
include ha in
theorem ran_row : Row (fun n => typing_onRelation_1_5 n [a]) ((relO a).map fun x => tySet x.2) := by
 unfold typing_onRelation_1_5
 simp only [idx0, Option.bind_some, sides_eq _ ha]
 cases relO a with
 | none => exact .no tyZero (Ev.ret _) rfl
 | some x => exact .yes (tySet x.2) (Ev.ret _) rfl
include ha in
theorem inv_row : Row (fun n => typing_onRelation_1_6 n [a]) ((relO a).map fun x => tySet (tyPair x.2 x.1)) := by
 unfold typing_onRelation_1_6
 simp only [idx0, Option.bind_some, sides_eq _ ha]
 cases relO a with
 | none => exact .no tyZero (Ev.ret _) rfl
 | some x => exact .yes (tySet (tyPair x.2 x.1)) (Ev.ret _) rfl
include ha hb in
theorem image_row : Row (fun n => typing_onRelation_1_7 n [a, b]) ((relO a).bind fun x => (setO b).bind fun y => onlyIf (tyEq y x.1) (tySet x.2)) := by
 unfold typing_onRelation_1_7 typing_rows_15
 simp only [idx0, idx1, Option.bind_some, elementOf_eq _ hb, sides_eq _ ha]
 cases relO a with
 | none => exact .no tyZero (Ev.ret _) rfl
 | some x =>
  cases setO b with
  | none => exact .no (tySet x.2) (Ev.ret _) rfl
  | some y => exact .of (tySet x.2) (tyEq y x.1) (Ev.bind (Ev.bind (Ev.bind (equal_ev y x.1) (Ev.ret _)) (Ev.ret _)) (Ev.ret _)) rfl
include ha in
theorem apply_row : Row (fun n => typing_onRelation_1_8 n [a, b]) ((relO a).bind fun x => onlyIf (tyEq b x.1) x.2) := by
 unfold typing_onRelation_1_8 typing_rows_16
 simp only [idx0, idx1, Option.bind_some, sides_eq _ ha]
 cases relO a with
 | none => exact .no tyZero (Ev.ret _) rfl
 | some x => exact .of x.2 (tyEq b x.1) (Ev.bind (Ev.bind (equal_ev b x.1) (Ev.ret _)) (Ev.ret _)) rfl
include ha in
theorem fun_row : Row (fun n => typing_rows_17 n [a, b]) ((setO a).bind fun x => onlyIf (b.kind != 2) (tySet (tyPair x b))) := by
 unfold typing_rows_17
 simp only [idx0, idx1, Option.bind_some, elementOf_eq _ ha]
 cases setO a with
 | none => exact .no (tySet (tyPair tyZero b)) (Ev.ret _) rfl
 | some x => exact .of (tySet (tyPair x b)) (b.kind != 2) (Ev.ret _) rfl
end
def RowC (f : Nat → Option (Bool × Int × Str × (List Ty))) (o : Option Ty) : Prop := ∃ r, Ev f r ∧ (match o with | some t => r = (true, t.kind, t.name, t.kids) | none => r.1 = false)
theorem Row.c {f : Nat → Option (Ty × Bool)} {o : Option Ty} (h : Row f o) : RowC (fun n => (f n).bind fun x => some (x.2, x.1.kind, x.1.name, x.1.kids)) o := by
 obtain ⟨r, h1, h2⟩ := h
 refine ⟨_, Ev.bind h1 (Ev.ret _), ?_⟩
 cases o with
 | none => exact h2
 | some t => have h2 : r = (t, true) := h2; subst h2; rfl
def chainF (n : Nat) (op : Int) (l : List Ty) : Option (Bool × Int × Str × (List Ty)) := (cond (op == 0) none (cond (op == 1) (some (((Ty.mk 2 ([] : Str) ([])), true).2, (((Ty.mk 2 ([] : Str) ([])), true).1).kind, (((Ty.mk 2 ([] : Str) ([])), true).1).name, (((Ty.mk 2 ([] : Str) ([])), true).1).kids)) (cond (op == 2) (some (((Ty.mk 2 ([] : Str) ([])), true).2, (((Ty.mk 2 ([] : Str) ([])), true).1).kind, (((Ty.mk 2 ([] : Str) ([])), true).1).name, (((Ty.mk 2 ([] : Str) ([])), true).1).kids)) (cond (op == 3) ((typing_each_1 n l 2 ([] : Str) ([]) 2).bind fun (x6 : Ty × Bool) => some (x6.2, x6.1.kind, x6.1.name, x6.1.kids)) (cond (op == 4) ((typing_each_1 n l 2 ([] : Str) ([]) 2).bind fun (x7 : Ty × Bool) => some (x7.2, x7.1.kind, x7.1.name, x7.1.kids)) (cond (op == 5) ((typing_each_1 n l 2 ([] : Str) ([]) 2).bind fun (x8 : Ty × Bool) => some (x8.2, x8.1.kind, x8.1.name, x8.1.kids)) (cond (op == 6) ((typing_each_1 n l 2 ([] : Str) ([]) 2).bind fun (x9 : Ty × Bool) => some (x9.2, x9.1.kind, x9.1.name, x9.1.kids)) (cond (op == 7) ((typing_each_1 n l 2 ([] : Str) ([]) 2).bind fun (x10 : Ty × Bool) => some (x10.2, x10.1.kind, x10.1.name, x10.1.kids)) (cond (op == 8) ((typing_body_1_1 n l).bind fun (x11 : Ty × Bool) => some (x11.2, x11.1.kind, x11.1.name, x11.1.kids)) (cond (op == 9) ((typing_body_1_1 n l).bind fun (x12 : Ty × Bool) => some (x12.2, x12.1.kind, x12.1.name, x12.1.kids)) (cond (op == 10) ((typing_rows_1 n l).bind fun (x13 : Ty × Bool) => some (x13.2, x13.1.kind, x13.1.name, x13.1.kids)) (cond (op == 11) ((typing_rows_1 n l).bind fun (x14 : Ty × Bool) => some (x14.2, x14.1.kind, x14.1.name, x14.1.kids)) (cond (op == 12) ((typing_each_1 n l 2 ([] : Str) ([]) 1).bind fun (x15 : Ty × Bool) => some (x15.2, x15.1.kind, x15.1.name, x15.1.kids)) (cond (op == 13) ((typing_each_1 n l 2 ([] : Str) ([]) 1).bind fun (x16 : Ty × Bool) => some (x16.2, x16.1.kind, x16.1.name, x16.1.kids)) (cond (op == 14) ((typing_each_1 n l 2 ([] : Str) ([]) 1).bind fun (x17 : Ty × Bool) => some (x17.2, x17.1.kind, x17.1.name, x17.1.kids)) (cond (op == 15) ((typing_each_1 n l 2 ([] : Str) ([]) 1).bind fun (x18 : Ty × Bool) => some (x18.2, x18.1.kind, x18.1.name, x18.1.kids)) (cond (op == 16) ((typing_member n l).bind fun (x19 : Ty × Bool) => some (x19.2, x19.1.kind, x19.1.name, x19.1.kids)) (cond (op == 17) ((typing_member n l).bind fun (x20 : Ty × Bool) => some (x20.2, x20.1.kind, x20.1.name, x20.1.kids)) (cond (op == 18) ((typing_sets_1_1 n l).bind fun (x21 : Ty × Bool) => some (x21.2, x21.1.kind, x21.1.name, x21.1.kids)) (cond (op == 19) (some (((Ty.mk 1 ([] : Str) ([])), true).2, (((Ty.mk 1 ([] : Str) ([])), true).1).kind, (((Ty.mk 1 ([] : Str) ([])), true).1).name, (((Ty.mk 1 ([] : Str) ([])), true).1).kids)) (cond (op == 20) none (cond (op == 21) ((typing_each_1 n l 1 ([] : Str) ([]) 1).bind fun (x22 : Ty × Bool) => some (x22.2, x22.1.kind, x22.1.name, x22.1.kids)) (cond (op == 22) ((typing_each_1 n l 1 ([] : Str) ([]) 1).bind fun (x23 : Ty × Bool) => some (x23.2, x23.1.kind, x23.1.name, x23.1.kids)) (cond (op == 23) ((typing_each_1 n l 1 ([] : Str) ([]) 1).bind fun (x24 : Ty × Bool) => some (x24.2, x24.1.kind, x24.1.name, x24.1.kids)) (cond (op == 24) ((typing_each_1 n l 1 ([] : Str) ([]) 1).bind fun (x25 : Ty × Bool) => some (x25.2, x25.1.kind, x25.1.name, x25.1.kids)) (cond (op == 25) ((typing_each_1 n l 1 ([] : Str) ([]) 1).bind fun (x26 : Ty × Bool) => some (x26.2, x26.1.kind, x26.1.name, x26.1.kids)) (cond (op == 26) ((typing_each_1 n l 1 ([] : Str) ([]) 1).bind fun (x27 : Ty × Bool) => some (x27.2, x27.1.kind, x27.1.name, x27.1.kids)) (cond (op == 27) ((typing_rows_6 n l).bind fun (x28 : Ty × Bool) => some (x28.2, x28.1.kind, x28.1.name, x28.1.kids)) (cond (op == 28) ((typing_rows_7 n l).bind fun (x29 : Ty × Bool) => some (x29.2, x29.1.kind, x29.1.name, x29.1.kids)) (cond (op == 29) none (cond (op == 30) ((typing_each_1 n l 5 ([] : Str) ([(Ty.mk 1 ([] : Str) ([]))]) 1).bind fun (x30 : Ty × Bool) => some (x30.2, x30.1.kind, x30.1.name, x30.1.kids)) (cond (op == 31) ((typing_sets_1_2 n l).bind fun (x31 : Ty × Bool) => some (x31.2, x31.1.kind, x31.1.name, x31.1.kids)) (cond (op == 32) ((typing_sets_1_2 n l).bind fun (x32 : Ty × Bool) => some (x32.2, x32.1.kind, x32.1.name, x32.1.kids)) (cond (op == 33) ((typing_sets_1_2 n l).bind fun (x33 : Ty × Bool) => some (x33.2, x33.1.kind, x33.1.name, x33.1.kids)) (cond (op == 34) ((typing_two_1_1 n l).bind fun (x34 : Ty × Bool) => some (x34.2, x34.1.kind, x34.1.name, x34.1.kids)) (cond (op == 35) ((typing_onRelation_1_1 n l).bind fun (x35 : Ty × Bool) => some (x35.2, x35.1.kind, x35.1.name, x35.1.kids)) (cond (op == 36) ((typing_onRelation_1_2 n l).bind fun (x36 : Ty × Bool) => some (x36.2, x36.1.kind, x36.1.name, x36.1.kids)) (cond (op == 37) ((typing_rows_3 n l).bind fun (x37 : Ty × Bool) => some (x37.2, x37.1.kind, x37.1.name, x37.1.kids)) (cond (op == 38) ((typing_rows_3 n l).bind fun (x38 : Ty × Bool) => some (x38.2, x38.1.kind, x38.1.name, x38.1.kids)) (cond (op == 39) ((typing_onRelation_1_3 n l).bind fun (x39 : Ty × Bool) => some (x39.2, x39.1.kind, x39.1.name, x39.1.kids)) (cond (op == 40) ((typing_onRelation_1_3 n l).bind fun (x40 : Ty × Bool) => some (x40.2, x40.1.kind, x40.1.name, x40.1.kids)) (cond (op == 41) ((typing_two_1_2 n l).bind fun (x41 : Ty × Bool) => some (x41.2, x41.1.kind, x41.1.name, x41.1.kids)) (cond (op == 42) ((typing_two_1_2 n l).bind fun (x42 : Ty × Bool) => some (x42.2, x42.1.kind, x42.1.name, x42.1.kids)) (cond (op == 43) ((typing_two_1_2 n l).bind fun (x43 : Ty × Bool) => some (x43.2, x43.1.kind, x43.1.name, x43.1.kids)) (cond (op == 44) ((typing_two_1_2 n l).bind fun (x44 : Ty × Bool) => some (x44.2, x44.1.kind, x44.1.name, x44.1.kids)) (cond (op == 45) ((typing_two_1_2 n l).bind fun (x45 : Ty × Bool) => some (x45.2, x45.1.kind, x45.1.name, x45.1.kids)) (cond (op == 46) ((typing_onSet_1_1 n l).bind fun (x46 : Ty × Bool) => some (x46.2, x46.1.kind, x46.1.name, x46.1.kids)) (cond (op == 47) ((typing_onSet_1_2 n l).bind fun (x47 : Ty × Bool) => some (x47.2, x47.1.kind, x47.1.name, x47.1.kids)) (cond (op == 48) ((typing_onSet_1_3 n l).bind fun (x48 : Ty × Bool) => some (x48.2, x48.1.kind, x48.1.name, x48.1.kids)) (cond (op == 49) ((typing_onSet_1_3 n l).bind fun (x49 : Ty × Bool) => some (x49.2, x49.1.kind, x49.1.name, x49.1.kids)) (cond (op == 50) ((typing_onRelation_1_4 n l).bind fun (x50 : Ty × Bool) => some (x50.2, x50.1.kind, x50.1.name, x50.1.kids)) (cond (op == 51) ((typing_onRelation_1_5 n l).bind fun (x51 : Ty × Bool) => some (x51.2, x51.1.kind, x51.1.name, x51.1.kids)) (cond (op == 52) ((typing_onRelation_1_6 n l).bind fun (x52 : Ty × Bool) => some (x52.2, x52.1.kind, x52.1.name, x52.1.kids)) (cond (op == 53) ((typing_onRelation_1_7 n l).bind fun (x53 : Ty × Bool) => some (x53.2, x53.1.kind, x53.1.name, x53.1.kids)) (cond (op == 54) ((typing_onRelation_1_8 n l).bind fun (x54 : Ty × Bool) => some (x54.2, x54.1.kind, x54.1.name, x54.1.kids)) (cond (op == 55) ((typing_body_1_2 n l).bind fun (x55 : Ty × Bool) => some (x55.2, x55.1.kind, x55.1.name, x55.1.kids)) (cond (op == 56) ((typing_rows_17 n l).bind fun (x56 : Ty × Bool) => some (x56.2, x56.1.kind, x56.1.name, x56.1.kids)) none)))))))))))))))))))))))))))))))))))))))))))))))))))))))))
theorem opCases {op : Int} (h1 : 1 ≤ op) (h2 : op ≤ 56) : op = 1 ∨ op = 2 ∨ op = 3 ∨ op = 4 ∨ op = 5 ∨ op = 6 ∨ op = 7 ∨ op = 8 ∨ op = 9 ∨ op = 10 ∨ op = 11 ∨ op = 12 ∨ op = 13 ∨ op = 14 ∨ op = 15 ∨ op = 16 ∨ op = 17 ∨ op = 18 ∨ op = 19 ∨ op = 20 ∨ op = 21 ∨ op = 22 ∨ op = 23 ∨ op = 24 ∨ op = 25 ∨ op = 26 ∨ op = 27 ∨ op = 28 ∨ op = 29 ∨ op = 30 ∨ op = 31 ∨ op = 32 ∨ op = 33 ∨ op = 34 ∨ op = 35 ∨ op = 36 ∨ op = 37 ∨ op = 38 ∨ op = 39 ∨ op = 40 ∨ op = 41 ∨ op = 42 ∨ op = 43 ∨ op = 44 ∨ op = 45 ∨ op = 46 ∨ op = 47 ∨ op = 48 ∨ op = 49 ∨ op = 50 ∨ op = 51 ∨ op = 52 ∨ op = 53 ∨ op = 54 ∨ op = 55 ∨ op = 56 := by omega
theorem one_of {α : Type} (l : List α) (h : (l.length : Int) = 1) : ∃ a, l = [a] := by
 match l, h with
 | [a], _ => exact ⟨a, rfl⟩
theorem two_of {α : Type} (l : List α) (h : (l.length : Int) = 2) : ∃ a b, l = [a, b] := by
 match l, h with
 | [a, b], _ => exact ⟨a, b, rfl⟩
theorem some_of {α : Type} (l : List α) (h : l ≠ []) : ∃ a m, l = a :: m := by
 match l, h with
 | a :: m, _ => exact ⟨a, m, rfl⟩
structure LenOk (op : Int) (l : List Ty) : Prop where
 one : kidsN op = 1 → (l.length : Int) = 1
 two : kidsN op = 2 → (l.length : Int) = 2
 some : kidsN op = -1 → l ≠ []
set_option maxRecDepth 100000 in
theorem chain_row {op : Int} (h1 : 1 ≤ op) (h2 : op ≤ 56) (h20 : op ≠ 20) (h29 : op ≠ 29) {l : List Ty} (hl : ∀ t ∈ l, Top t) (hn : LenOk op l) (hb : bindB op = true → (setO (l.headD tyZero)).isSome = true) : RowC (fun n => chainF n op l) (rowO op l) := by
 rcases opCases h1 h2 with rfl | rfl | rfl | rfl | rfl | rfl | rfl | rfl | rfl | rfl | rfl | rfl | rfl | rfl | rfl | rfl | rfl | rfl | rfl | rfl | rfl | rfl | rfl | rfl | rfl | rfl | rfl | rfl | rfl | rfl | rfl | rfl | rfl | rfl | rfl | rfl | rfl | rfl | rfl | rfl | rfl | rfl | rfl | rfl | rfl | rfl | rfl | rfl | rfl | rfl | rfl | rfl | rfl | rfl | rfl | rfl
 ·exact ⟨_, Ev.ret _, rfl⟩
 ·exact ⟨_, Ev.ret _, rfl⟩
 ·exact Row.c (each_row l 2 [] [] 2)
 ·exact Row.c (each_row l 2 [] [] 2)
 ·exact Row.c (each_row l 2 [] [] 2)
 ·exact Row.c (each_row l 2 [] [] 2)
 ·exact Row.c (each_row l 2 [] [] 2)
 ·obtain ⟨a, b, rfl⟩ := two_of l (hn.two rfl); exact Row.c (body1_row (hb rfl))
 ·obtain ⟨a, b, rfl⟩ := two_of l (hn.two rfl); exact Row.c (body1_row (hb rfl))
 ·obtain ⟨a, b, rfl⟩ := two_of l (hn.two rfl); exact Row.c (same_row)
 ·obtain ⟨a, b, rfl⟩ := two_of l (hn.two rfl); exact Row.c (same_row)
 ·exact Row.c (each_row l 2 [] [] 1)
 ·exact Row.c (each_row l 2 [] [] 1)
 ·exact Row.c (each_row l 2 [] [] 1)
 ·exact Row.c (each_row l 2 [] [] 1)
 ·obtain ⟨a, b, rfl⟩ := two_of l (hn.two rfl); exact Row.c (member_row (hl b (by simp)))
 ·obtain ⟨a, b, rfl⟩ := two_of l (hn.two rfl); exact Row.c (member_row (hl b (by simp)))
 ·obtain ⟨a, b, rfl⟩ := two_of l (hn.two rfl); exact Row.c (sets1_row (hl a (by simp)))
 ·exact ⟨_, Ev.ret _, rfl⟩
 ·exact absurd rfl h20
 ·exact Row.c (each_row l 1 [] [] 1)
 ·exact Row.c (each_row l 1 [] [] 1)
 ·exact Row.c (each_row l 1 [] [] 1)
 ·exact Row.c (each_row l 1 [] [] 1)
 ·exact Row.c (each_row l 1 [] [] 1)
 ·exact Row.c (each_row l 1 [] [] 1)
 ·obtain ⟨a, b, rfl⟩ := two_of l (hn.two rfl); exact Row.c (pair_row)
 ·obtain ⟨a, l, rfl⟩ := some_of l (hn.some rfl); exact Row.c (set_row l)
 ·exact absurd rfl h29
 ·exact Row.c (each_row l 5 [] [tyInt] 1)
 ·obtain ⟨a, b, rfl⟩ := two_of l (hn.two rfl); exact Row.c (sets2_row (hl a (by simp)))
 ·obtain ⟨a, b, rfl⟩ := two_of l (hn.two rfl); exact Row.c (sets2_row (hl a (by simp)))
 ·obtain ⟨a, b, rfl⟩ := two_of l (hn.two rfl); exact Row.c (sets2_row (hl a (by simp)))
 ·obtain ⟨a, b, rfl⟩ := two_of l (hn.two rfl); exact Row.c (two1_row (hl a (by simp)) (hl b (by simp)))
 ·obtain ⟨a, b, rfl⟩ := two_of l (hn.two rfl); exact Row.c (rel1_row (hl a (by simp)))
 ·obtain ⟨a, b, rfl⟩ := two_of l (hn.two rfl); exact Row.c (rel2_row (hl a (by simp)) (hl b (by simp)))
 ·obtain ⟨a, b, rfl⟩ := two_of l (hn.two rfl); exact Row.c (res1_row (hl a (by simp)) (hl b (by simp)))
 ·obtain ⟨a, b, rfl⟩ := two_of l (hn.two rfl); exact Row.c (res1_row (hl a (by simp)) (hl b (by simp)))
 ·obtain ⟨a, b, rfl⟩ := two_of l (hn.two rfl); exact Row.c (rel3_row (hl a (by simp)) (hl b (by simp)))
 ·obtain ⟨a, b, rfl⟩ := two_of l (hn.two rfl); exact Row.c (rel3_row (hl a (by simp)) (hl b (by simp)))
 ·obtain ⟨a, b, rfl⟩ := two_of l (hn.two rfl); exact Row.c (two2_row (hl a (by simp)) (hl b (by simp)))
 ·obtain ⟨a, b, rfl⟩ := two_of l (hn.two rfl); exact Row.c (two2_row (hl a (by simp)) (hl b (by simp)))
 ·obtain ⟨a, b, rfl⟩ := two_of l (hn.two rfl); exact Row.c (two2_row (hl a (by simp)) (hl b (by simp)))
 ·obtain ⟨a, b, rfl⟩ := two_of l (hn.two rfl); exact Row.c (two2_row (hl a (by simp)) (hl b (by simp)))
 ·obtain ⟨a, b, rfl⟩ := two_of l (hn.two rfl); exact Row.c (two2_row (hl a (by simp)) (hl b (by simp)))
 ·obtain ⟨a, rfl⟩ := one_of l (hn.one rfl); exact Row.c (pow_row (hl a (by simp)))
 ·obtain ⟨a, rfl⟩ := one_of l (hn.one rfl); exact Row.c (card_row (hl a (by simp)))
 ·obtain ⟨a, rfl⟩ := one_of l (hn.one rfl); exact Row.c (min_row (hl a (by simp)))
 ·obtain ⟨a, rfl⟩ := one_of l (hn.one rfl); exact Row.c (min_row (hl a (by simp)))
 ·obtain ⟨a, rfl⟩ := one_of l (hn.one rfl); exact Row.c (dom_row (hl a (by simp)))
 ·obtain ⟨a, rfl⟩ := one_of l (hn.one rfl); exact Row.c (ran_row (hl a (by simp)))
 ·obtain ⟨a, rfl⟩ := one_of l (hn.one rfl); exact Row.c (inv_row (hl a (by simp)))
 ·obtain ⟨a, b, rfl⟩ := two_of l (hn.two rfl); exact Row.c (image_row (hl a (by simp)) (hl b (by simp)))
 ·obtain ⟨a, b, rfl⟩ := two_of l (hn.two rfl); exact Row.c (apply_row (hl a (by simp)))
 ·obtain ⟨a, b, rfl⟩ := two_of l (hn.two rfl); exact Row.c (body2_row (hb rfl))
 ·obtain ⟨a, b, rfl⟩ := two_of l (hn.two rfl); exact Row.c (fun_row (hl a (by simp)))
end Abs
end Go.Proofs.YtiiaccpcoclklaaGreat
namespace Go.Proofs.YtiiaccpcoclklaaGreat
namespace Abs
open Go
theorem Row.eta {f : Nat → Option (Ty × Bool)} {o : Option Ty} (h : Row f o) : Row (fun n => (f n).bind fun x => some (x.1, x.2)) o := by
 obtain ⟨r, h1, h2⟩ := h
 exact ⟨r, Ev.bind h1 (Ev.ret _), h2⟩
theorem all_ev (l : List Ty) (t : Ty) : Ev (fun n => R2_all n l t) (l.all fun x => tyEq x t) := by
 unfold R2_all
 have h := loopStop l (fun n k i => R2_all_L0 n l t k i) (fun n x => (R1_SameType n x t).bind fun b => some (!b)) (fun x => !(tyEq x t)) false
  (fun n k i => by
   show cond _ _ _ = _
   congr 1
   congr 1
   funext x
   simp only [Option.bind_assoc, Option.bind_some])
  (fun x _ => Ev.bind (SameType2_ev x t) (Ev.ret _))
 rw [any_not] at h
 refine Ev.bind h ?_
 cases l.all fun x => tyEq x t
 ·exact Ev.ret _
 ·exact Ev.ret _
theorem first_eq (n : Nat) (x y : Ty) : R2_first n (tySet (tyPair x y)) = some x := rfl
theorem second_eq (n : Nat) (x y : Ty) : R2_second n (tySet (tyPair x y)) = some y := rfl
theorem eqSet {a : Ty} (ha : Top a) (x t : Ty) : (setO a).bind (fun z => onlyIf (tyEq z x) t) = onlyIf (tyEq a (tySet x)) t := by
 cases hs : setO a with
 | none =>
  cases he : tyEq a (tySet x) with
  | false => rfl
  | true => have := tyEq_eq _ _ he; subst this; rw [setO_set] at hs; cases hs
 | some e =>
  obtain ⟨_, rfl⟩ := setO_good ha hs
  rw [tyEq_set]
  rfl
theorem eqElem {a b : Ty} (hb : Top b) (t : Ty) : (setO b).bind (fun e => onlyIf (tyEq a e) t) = onlyIf (a.kind != 2 && tyEq (tySet a) b) t := by
 cases hs : setO b with
 | none =>
  cases he : tyEq (tySet a) b with
  | false => rw [Bool.and_false]; rfl
  | true => have := tyEq_eq _ _ he; subst this; rw [setO_set] at hs; cases hs
 | some e =>
  obtain ⟨hg, rfl⟩ := setO_good hb hs
  rw [tyEq_set]
  cases he : tyEq a e with
  | false => rw [Bool.and_false]; simp only [Option.bind_some, he]
  | true =>
   have := tyEq_eq _ _ he
   subst this
   simp only [Option.bind_some, he, bne, good_kind hg, Bool.not_false, Bool.and_true]
theorem R2_row_1 {op : Int} (ho : op = 1 ∨ op = 2) {l : List Ty} (hl : ∀ t ∈ l, Top t) (hn : LenOk op l) (nm : Str) (m : Int) (ty : Ty) (ks : List Tm) : Row (fun n => R2_row n (.mk op nm m ty ks) l) (rowO op l) := by
 rcases ho with rfl | rfl <;>
 ·exact Row.yes tyBool (Ev.ret _) rfl
theorem R2_row_3 {op : Int} (ho : op = 3 ∨ op = 4 ∨ op = 5 ∨ op = 6 ∨ op = 7) {l : List Ty} (hl : ∀ t ∈ l, Top t) (hn : LenOk op l) (nm : Str) (m : Int) (ty : Ty) (ks : List Tm) : Row (fun n => R2_row n (.mk op nm m ty ks) l) (rowO op l) := by
 rcases ho with rfl | rfl | rfl | rfl | rfl <;>
 ·refine Row.eta (f := fun n => R2_logic n _ l) ?_
  show Row (fun n => ((R2_all n l (Ty.mk 2 ([] : Str) ([]))).bind fun x1 => some ((Ty.mk 2 ([] : Str) ([])), x1))) _
  exact Row.of tyBool _ (Ev.bind (all_ev l tyBool) (Ev.ret _)) (by rw [← allKB hl]; rfl)
theorem R2_row_8 {op : Int} (ho : op = 8 ∨ op = 9) {l : List Ty} (hl : ∀ t ∈ l, Top t) (hn : LenOk op l) (nm : Str) (m : Int) (ty : Ty) (ks : List Tm) : Row (fun n => R2_row n (.mk op nm m ty ks) l) (rowO op l) := by
 rcases ho with rfl | rfl <;>
 ·obtain ⟨a, b, rfl⟩ := two_of l (hn.two rfl)
  have ha := hl a (by simp)
  have hb := hl b (by simp)
  refine Row.eta (f := fun n => R2_logic n _ [a, b]) ?_
  show Row (fun n => ((((idx [a, b] 0).bind fun x2 => ((R2_isSet n x2).bind fun x3 => (cond x3 ((idx [a, b] 1).bind fun x4 => some (x4.kind == 2)) (some false)))) : Option Bool).bind fun s4 => some ((Ty.mk 2 ([] : Str) ([])), s4))) _
  simp only [idx0, idx1, Option.bind_some, isSet_eq _ ha]
  show Row _ (onlyIf ((setO a).isSome && b.kind == 2) tyBool)
  cases setO a with
  | none => exact .no tyBool (Ev.ret _) rfl
  | some e => exact .of tyBool (b.kind == 2) (Ev.ret _) rfl
theorem R2_row_10 {op : Int} (ho : op = 10 ∨ op = 11) {l : List Ty} (hl : ∀ t ∈ l, Top t) (hn : LenOk op l) (nm : Str) (m : Int) (ty : Ty) (ks : List Tm) : Row (fun n => R2_row n (.mk op nm m ty ks) l) (rowO op l) := by
 rcases ho with rfl | rfl <;>
 ·obtain ⟨a, b, rfl⟩ := two_of l (hn.two rfl)
  have ha := hl a (by simp)
  have hb := hl b (by simp)
  refine Row.eta (f := fun n => R2_logic n _ [a, b]) ?_
  show Row (fun n => ((((idx [a, b] 0).bind fun x5 => (cond (x5.kind != 2) ((idx [a, b] 0).bind fun x6 => ((idx [a, b] 1).bind fun x7 => ((R1_SameType n x6 x7).bind fun x8 => some x8))) (some false))) : Option Bool).bind fun s6 => some ((Ty.mk 2 ([] : Str) ([])), s6))) _
  simp only [idx0, idx1, Option.bind_some]
  show Row _ (onlyIf (a.kind != 2 && tyEq a b) tyBool)
  cases a.kind != 2 with
  | false => exact .no tyBool (Ev.ret _) rfl
  | true => exact .of tyBool (tyEq a b) (Ev.bind (Ev.bind (SameType2_ev a b) (Ev.ret _)) (Ev.ret _)) rfl
theorem R2_row_12 {op : Int} (ho : op = 12 ∨ op = 13 ∨ op = 14 ∨ op = 15) {l : List Ty} (hl : ∀ t ∈ l, Top t) (hn : LenOk op l) (nm : Str) (m : Int) (ty : Ty) (ks : List Tm) : Row (fun n => R2_row n (.mk op nm m ty ks) l) (rowO op l) := by
 rcases ho with rfl | rfl | rfl | rfl <;>
 ·refine Row.eta (f := fun n => R2_logic n _ l) ?_
  show Row (fun n => ((R2_all n l (Ty.mk 1 ([] : Str) ([]))).bind fun x9 => some ((Ty.mk 2 ([] : Str) ([])), x9))) _
  exact Row.of tyBool _ (Ev.bind (all_ev l tyInt) (Ev.ret _)) (by rw [← allKI hl]; rfl)
theorem R2_row_16 {op : Int} (ho : op = 16 ∨ op = 17) {l : List Ty} (hl : ∀ t ∈ l, Top t) (hn : LenOk op l) (nm : Str) (m : Int) (ty : Ty) (ks : List Tm) : Row (fun n => R2_row n (.mk op nm m ty ks) l) (rowO op l) := by
 rcases ho with rfl | rfl <;>
 ·obtain ⟨a, b, rfl⟩ := two_of l (hn.two rfl)
  have ha := hl a (by simp)
  have hb := hl b (by simp)
  refine Row.eta (f := fun n => R2_logic n _ [a, b]) ?_
  show Row (fun n => ((((idx [a, b] 0).bind fun x10 => (cond (x10.kind != 2) ((idx [a, b] 0).bind fun x11 => ((idx [a, b] 1).bind fun x12 => ((R1_SameType n (Ty.mk 5 ([] : Str) ([x11])) x12).bind fun x13 => some x13))) (some false))) : Option Bool).bind fun s9 => some ((Ty.mk 2 ([] : Str) ([])), s9))) _
  simp only [idx0, idx1, Option.bind_some]
  show Row _ ((setO b).bind fun e => onlyIf (tyEq a e) tyBool)
  rw [eqElem hb]
  cases a.kind != 2 with
  | false => exact .no tyBool (Ev.ret _) rfl
  | true => exact .of tyBool (tyEq (tySet a) b) (Ev.bind (Ev.bind (SameType2_ev (tySet a) b) (Ev.ret _)) (Ev.ret _)) rfl
theorem R2_row_18 {l : List Ty} (hl : ∀ t ∈ l, Top t) (hn : LenOk 18 l) (nm : Str) (m : Int) (ty : Ty) (ks : List Tm) : Row (fun n => R2_row n (.mk 18 nm m ty ks) l) (rowO 18 l) := by
 obtain ⟨a, b, rfl⟩ := two_of l (hn.two rfl)
 have ha := hl a (by simp)
 have hb := hl b (by simp)
 refine Row.eta (f := fun n => R2_logic n 18 [a, b]) ?_
 show Row (fun n => ((((idx [a, b] 0).bind fun x14 => ((R2_isSet n x14).bind fun x15 => (cond x15 ((idx [a, b] 0).bind fun x16 => ((idx [a, b] 1).bind fun x17 => ((R1_SameType n x16 x17).bind fun x18 => some x18))) (some false)))) : Option Bool).bind fun s10 => some ((Ty.mk 2 ([] : Str) ([])), s10))) _
 simp only [idx0, idx1, Option.bind_some, isSet_eq _ ha]
 show Row _ (onlyIf ((setO a).isSome && tyEq a b) tyBool)
 cases setO a with
 | none => exact .no tyBool (Ev.ret _) rfl
 | some e => exact .of tyBool (tyEq a b) (Ev.bind (Ev.bind (SameType2_ev a b) (Ev.ret _)) (Ev.ret _)) rfl
theorem R2_row_19 {l : List Ty} (hl : ∀ t ∈ l, Top t) (hn : LenOk 19 l) (nm : Str) (m : Int) (ty : Ty) (ks : List Tm) : Row (fun n => R2_row n (.mk 19 nm m ty ks) l) (rowO 19 l) := by
 exact Row.yes tyInt (Ev.ret _) rfl
theorem R2_row_21 {op : Int} (ho : op = 21 ∨ op = 22 ∨ op = 23 ∨ op = 24 ∨ op = 25 ∨ op = 26) {l : List Ty} (hl : ∀ t ∈ l, Top t) (hn : LenOk op l) (nm : Str) (m : Int) (ty : Ty) (ks : List Tm) : Row (fun n => R2_row n (.mk op nm m ty ks) l) (rowO op l) := by
 rcases ho with rfl | rfl | rfl | rfl | rfl | rfl <;>
 ·show Row (fun n => ((R2_all n l (Ty.mk 1 ([] : Str) ([]))).bind fun x1 => some ((Ty.mk 1 ([] : Str) ([])), x1))) _
  exact Row.of tyInt _ (Ev.bind (all_ev l tyInt) (Ev.ret _)) (by rw [← allKI hl]; rfl)
theorem R2_row_27 {l : List Ty} (hl : ∀ t ∈ l, Top t) (hn : LenOk 27 l) (nm : Str) (m : Int) (ty : Ty) (ks : List Tm) : Row (fun n => R2_row n (.mk 27 nm m ty ks) l) (rowO 27 l) := by
 obtain ⟨a, b, rfl⟩ := two_of l (hn.two rfl)
 have ha := hl a (by simp)
 have hb := hl b (by simp)
 show Row (fun n => ((((idx [a, b] 0).bind fun x2 => ((idx [a, b] 1).bind fun x3 => ((idx [a, b] 0).bind fun x4 => (cond (x4.kind != 2) ((idx [a, b] 1).bind fun x5 => some ((x5.kind != 2), ([x2, x3]))) (some (false, ([x2, x3]))))))) : Option (Bool × (List Ty))).bind fun s2 => some ((Ty.mk 4 ([] : Str) s2.2), s2.1))) _
 simp only [idx0, idx1, Option.bind_some]
 show Row _ (onlyIf (a.kind != 2 && b.kind != 2) (tyPair a b))
 cases a.kind != 2 with
 | false => exact .no (tyPair a b) (Ev.ret _) rfl
 | true => exact .of (tyPair a b) (b.kind != 2) (Ev.ret _) rfl
theorem R2_row_28 {l : List Ty} (hl : ∀ t ∈ l, Top t) (hn : LenOk 28 l) (nm : Str) (m : Int) (ty : Ty) (ks : List Tm) : Row (fun n => R2_row n (.mk 28 nm m ty ks) l) (rowO 28 l) := by
 obtain ⟨a, l, rfl⟩ := some_of l (hn.some rfl)
 show Row (fun n => ((((idx (a :: l) 0).bind fun x6 => ((idx (a :: l) 0).bind fun x7 => (cond (x7.kind != 2) ((idx (a :: l) 0).bind fun x8 => ((R2_all n (a :: l) x8).bind fun x9 => some (x9, ([x6])))) (some (false, ([x6])))))) : Option (Bool × (List Ty))).bind fun s3 => some ((Ty.mk 5 ([] : Str) s3.2), s3.1))) _
 simp only [idx0, Option.bind_some]
 show Row _ (onlyIf (a.kind != 2 && (a :: l).all fun x => tyEq x a) (tySet a))
 cases a.kind != 2 with
 | false => exact .no (tySet a) (Ev.ret _) rfl
 | true => exact .of (tySet a) _ (Ev.bind (a := ((a :: l).all fun x => tyEq x a, [a])) (Ev.bind (all_ev (a :: l) a) (Ev.ret _)) (Ev.ret _)) rfl
theorem R2_row_30 {l : List Ty} (hl : ∀ t ∈ l, Top t) (hn : LenOk 30 l) (nm : Str) (m : Int) (ty : Ty) (ks : List Tm) : Row (fun n => R2_row n (.mk 30 nm m ty ks) l) (rowO 30 l) := by
 show Row (fun n => ((R2_all n l (Ty.mk 1 ([] : Str) ([]))).bind fun x10 => some ((Ty.mk 5 ([] : Str) ([(Ty.mk 1 ([] : Str) ([]))])), x10))) _
 exact Row.of (tySet tyInt) _ (Ev.bind (all_ev l tyInt) (Ev.ret _)) (by rw [← allKI hl]; rfl)
theorem R2_row_31 {op : Int} (ho : op = 31 ∨ op = 32 ∨ op = 33) {l : List Ty} (hl : ∀ t ∈ l, Top t) (hn : LenOk op l) (nm : Str) (m : Int) (ty : Ty) (ks : List Tm) : Row (fun n => R2_row n (.mk op nm m ty ks) l) (rowO op l) := by
 rcases ho with rfl | rfl | rfl <;>
 ·obtain ⟨a, b, rfl⟩ := two_of l (hn.two rfl)
  have ha := hl a (by simp)
  have hb := hl b (by simp)
  show Row (fun n => ((((idx [a, b] 0).bind fun x28 => ((idx [a, b] 0).bind fun x29 => ((R2_isSet n x29).bind fun x30 => (cond x30 ((idx [a, b] 0).bind fun x31 => ((idx [a, b] 1).bind fun x32 => ((R1_SameType n x31 x32).bind fun x33 => some (x33, x28.kind, x28.name, x28.kids)))) (some (false, x28.kind, x28.name, x28.kids)))))) : Option (Bool × Int × Str × (List Ty))).bind fun s8 => some ((Ty.mk s8.2.1 s8.2.2.1 s8.2.2.2), s8.1))) _
  simp only [idx0, idx1, Option.bind_some, isSet_eq _ ha]
  show Row _ (onlyIf ((setO a).isSome && tyEq a b) a)
  cases setO a with
  | none => exact .no a (by simp only [Option.isSome_none, cond_false, Option.bind_some, ty_eta]; exact Ev.ret _) rfl
  | some e => exact .of a (tyEq a b) (Ev.bind (a := (tyEq a b, a.kind, a.name, a.kids)) (Ev.bind (SameType2_ev a b) (Ev.ret _)) (by simp only [ty_eta]; exact Ev.ret _)) rfl
theorem R2_row_34 {l : List Ty} (hl : ∀ t ∈ l, Top t) (hn : LenOk 34 l) (nm : Str) (m : Int) (ty : Ty) (ks : List Tm) : Row (fun n => R2_row n (.mk 34 nm m ty ks) l) (rowO 34 l) := by
 obtain ⟨a, b, rfl⟩ := two_of l (hn.two rfl)
 have ha := hl a (by simp)
 have hb := hl b (by simp)
 show Row (fun n => ((((idx [a, b] 0).bind fun x38 => ((R2_isSet n x38).bind fun x39 => (cond (!x39) (some true) ((idx [a, b] 1).bind fun x40 => ((R2_isSet n x40).bind fun x41 => some (!x41)))))) : Option Bool).bind fun s10 => (cond s10 (some ((Ty.mk 0 ([] : Str) ([])), false)) ((idx [a, b] 0).bind fun x34 => ((idx x34.kids 0).bind fun x35 => ((idx [a, b] 1).bind fun x36 => ((idx x36.kids 0).bind fun x37 => (((cond ((34 : Int) != 34) (some ([(Ty.mk 5 ([] : Str) ([(Ty.mk 4 ([] : Str) ([x35, x37]))]))])) (some ([(Ty.mk 4 ([] : Str) ([x35, x37]))]))) : Option (List Ty)).bind fun s11 => some ((Ty.mk 5 ([] : Str) s11), true))))))))) _
 simp only [idx0, idx1, Option.bind_some, isSet_eq _ ha, isSet_eq _ hb]
 show Row _ ((setO a).bind fun x => (setO b).map fun y => tySet (tyPair x y))
 cases hs : setO a with
 | none => exact .no tyZero (Ev.ret _) rfl
 | some x =>
  cases ht : setO b with
  | none => exact .no tyZero (Ev.ret _) rfl
  | some y =>
   obtain ⟨_, rfl⟩ := setO_good ha hs
   obtain ⟨_, rfl⟩ := setO_good hb ht
   exact .yes (tySet (tyPair x y)) (Ev.ret _) rfl
theorem R2_row_35 {l : List Ty} (hl : ∀ t ∈ l, Top t) (hn : LenOk 35 l) (nm : Str) (m : Int) (ty : Ty) (ks : List Tm) : Row (fun n => R2_row n (.mk 35 nm m ty ks) l) (rowO 35 l) := by
 obtain ⟨a, b, rfl⟩ := two_of l (hn.two rfl)
 have ha := hl a (by simp)
 have hb := hl b (by simp)
 refine Row.eta (f := fun n => R2_relation n 35 [a, b]) ?_
 show Row _ (onlyIf ((relO a).isSome && tyEq a b) a)
 simp only [R2_relation, Tm.op, idx0, idx1, Option.bind_some, Int.reduceBEq, cond_true, cond_false, ty_eta, isRel_eq _ ha]
 cases hr : relO a with
 | none => exact .no tyZero (Ev.ret _) rfl
 | some x =>
  obtain ⟨x, y⟩ := x
  obtain ⟨_, _, rfl⟩ := relO_good ha hr
  simp only [first_eq, second_eq, Option.bind_some, Option.isSome_some, Bool.not_true, cond_false]
  exact .of _ (tyEq (tySet (tyPair x y)) b) (Ev.bind (SameType2_ev _ _) (Ev.ret _)) rfl
theorem R2_row_36 {l : List Ty} (hl : ∀ t ∈ l, Top t) (hn : LenOk 36 l) (nm : Str) (m : Int) (ty : Ty) (ks : List Tm) : Row (fun n => R2_row n (.mk 36 nm m ty ks) l) (rowO 36 l) := by
 obtain ⟨a, b, rfl⟩ := two_of l (hn.two rfl)
 have ha := hl a (by simp)
 have hb := hl b (by simp)
 refine Row.eta (f := fun n => R2_relation n 36 [a, b]) ?_
 show Row _ ((relO a).bind fun x => (relO b).bind fun y => onlyIf (tyEq x.2 y.1) (tySet (tyPair x.1 y.2)))
 simp only [R2_relation, Tm.op, idx0, idx1, Option.bind_some, Int.reduceBEq, cond_true, cond_false, ty_eta, isRel_eq _ ha, isRel_eq _ hb]
 cases hr : relO a with
 | none => exact .no tyZero (Ev.ret _) rfl
 | some x =>
  obtain ⟨x, y⟩ := x
  obtain ⟨_, _, rfl⟩ := relO_good ha hr
  simp only [first_eq, second_eq, Option.bind_some, Option.isSome_some, Bool.not_true, cond_false]
  cases hq : relO b with
  | none => exact .no tyZero (Ev.ret _) rfl
  | some z =>
   obtain ⟨z, u⟩ := z
   obtain ⟨_, _, rfl⟩ := relO_good hb hq
   simp only [first_eq, second_eq, Option.bind_some, Option.isSome_some, Bool.not_true, cond_false]
   refine .of (cond (tyEq y z) (tySet (tyPair x u)) tyZero) (tyEq y z) (Ev.bind (a := !(tyEq y z)) (Ev.bind (SameType2_ev y z) (Ev.ret _)) ?_) ?_
   ·cases tyEq y z
    ·exact Ev.ret _
    ·exact Ev.ret _
   ·show onlyIf (tyEq y z) _ = _
    cases tyEq y z <;> rfl
theorem R2_row_37 {op : Int} (ho : op = 37 ∨ op = 38) {l : List Ty} (hl : ∀ t ∈ l, Top t) (hn : LenOk op l) (nm : Str) (m : Int) (ty : Ty) (ks : List Tm) : Row (fun n => R2_row n (.mk op nm m ty ks) l) (rowO op l) := by
 rcases ho with rfl | rfl <;>
 ·obtain ⟨a, b, rfl⟩ := two_of l (hn.two rfl)
  have ha := hl a (by simp)
  have hb := hl b (by simp)
  refine Row.eta (f := fun n => R2_relation n _ [a, b]) ?_
  show Row _ ((setO a).bind fun x => (relO b).bind fun y => onlyIf (tyEq x y.1) b)
  simp only [R2_relation, Tm.op, idx0, idx1, Option.bind_some, Int.reduceBEq, cond_true, cond_false, ty_eta, isRel_eq _ hb]
  cases hr : relO b with
  | none =>
   refine .no tyZero (Ev.ret _) ?_
   cases setO a <;> rfl
  | some x =>
   obtain ⟨x, y⟩ := x
   obtain ⟨_, _, rfl⟩ := relO_good hb hr
   simp only [first_eq, second_eq, Option.bind_some, Option.isSome_some, Bool.not_true, cond_false]
   show Row _ ((setO a).bind fun z => onlyIf (tyEq z x) (tySet (tyPair x y)))
   rw [eqSet ha]
   exact .of _ _ (Ev.bind (SameType2_ev _ _) (Ev.ret _)) rfl
theorem R2_row_39 {op : Int} (ho : op = 39 ∨ op = 40) {l : List Ty} (hl : ∀ t ∈ l, Top t) (hn : LenOk op l) (nm : Str) (m : Int) (ty : Ty) (ks : List Tm) : Row (fun n => R2_row n (.mk op nm m ty ks) l) (rowO op l) := by
 rcases ho with rfl | rfl <;>
 ·obtain ⟨a, b, rfl⟩ := two_of l (hn.two rfl)
  have ha := hl a (by simp)
  have hb := hl b (by simp)
  refine Row.eta (f := fun n => R2_relation n _ [a, b]) ?_
  show Row _ ((relO a).bind fun x => (setO b).bind fun y => onlyIf (tyEq y x.2) a)
  simp only [R2_relation, Tm.op, idx0, idx1, Option.bind_some, Int.reduceBEq, cond_true, cond_false, ty_eta, isRel_eq _ ha]
  cases hr : relO a with
  | none => exact .no tyZero (Ev.ret _) rfl
  | some x =>
   obtain ⟨x, y⟩ := x
   obtain ⟨_, _, rfl⟩ := relO_good ha hr
   simp only [first_eq, second_eq, Option.bind_some, Option.isSome_some, Bool.not_true, cond_false]
   show Row _ ((setO b).bind fun z => onlyIf (tyEq z y) (tySet (tyPair x y)))
   rw [eqSet hb]
   exact .of _ _ (Ev.bind (SameType2_ev _ _) (Ev.ret _)) rfl
theorem R2_row_41 {op : Int} (ho : op = 41 ∨ op = 42 ∨ op = 43 ∨ op = 44 ∨ op = 45) {l : List Ty} (hl : ∀ t ∈ l, Top t) (hn : LenOk op l) (nm : Str) (m : Int) (ty : Ty) (ks : List Tm) : Row (fun n => R2_row n (.mk op nm m ty ks) l) (rowO op l) := by
 rcases ho with rfl | rfl | rfl | rfl | rfl <;>
 ·obtain ⟨a, b, rfl⟩ := two_of l (hn.two rfl)
  have ha := hl a (by simp)
  have hb := hl b (by simp)
  show Row (fun n => ((((idx [a, b] 0).bind fun x38 => ((R2_isSet n x38).bind fun x39 => (cond (!x39) (some true) ((idx [a, b] 1).bind fun x40 => ((R2_isSet n x40).bind fun x41 => some (!x41)))))) : Option Bool).bind fun s10 => (cond s10 (some ((Ty.mk 0 ([] : Str) ([])), false)) ((idx [a, b] 0).bind fun x34 => ((idx x34.kids 0).bind fun x35 => ((idx [a, b] 1).bind fun x36 => ((idx x36.kids 0).bind fun x37 => (((cond true (some ([(Ty.mk 5 ([] : Str) ([(Ty.mk 4 ([] : Str) ([x35, x37]))]))])) (some ([(Ty.mk 4 ([] : Str) ([x35, x37]))]))) : Option (List Ty)).bind fun s11 => some ((Ty.mk 5 ([] : Str) s11), true))))))))) _
  simp only [idx0, idx1, Option.bind_some, isSet_eq _ ha, isSet_eq _ hb]
  show Row _ ((setO a).bind fun x => (setO b).map fun y => tySet (tySet (tyPair x y)))
  cases hs : setO a with
  | none => exact .no tyZero (Ev.ret _) rfl
  | some x =>
   cases ht : setO b with
   | none => exact .no tyZero (Ev.ret _) rfl
   | some y =>
    obtain ⟨_, rfl⟩ := setO_good ha hs
    obtain ⟨_, rfl⟩ := setO_good hb ht
    exact .yes (tySet (tySet (tyPair x y))) (Ev.ret _) rfl
theorem R2_row_46 {l : List Ty} (hl : ∀ t ∈ l, Top t) (hn : LenOk 46 l) (nm : Str) (m : Int) (ty : Ty) (ks : List Tm) : Row (fun n => R2_row n (.mk 46 nm m ty ks) l) (rowO 46 l) := by
 obtain ⟨a, rfl⟩ := one_of l (hn.one rfl)
 have ha := hl a (by simp)
 show Row (fun n => ((idx [a] 0).bind fun x25 => ((idx [a] 0).bind fun x26 => ((R2_isSet n x26).bind fun x27 => some ((Ty.mk 5 ([] : Str) ([x25])), x27))))) _
 simp only [idx0, idx1, Option.bind_some, isSet_eq _ ha]
 show Row _ ((setO a).map fun x => tySet (tySet x))
 cases hs : setO a with
 | none => exact .no (tySet a) (Ev.ret _) rfl
 | some e =>
  obtain ⟨_, rfl⟩ := setO_good ha hs
  exact .yes (tySet (tySet e)) (Ev.ret _) rfl
theorem R2_row_47 {l : List Ty} (hl : ∀ t ∈ l, Top t) (hn : LenOk 47 l) (nm : Str) (m : Int) (ty : Ty) (ks : List Tm) : Row (fun n => R2_row n (.mk 47 nm m ty ks) l) (rowO 47 l) := by
 obtain ⟨a, rfl⟩ := one_of l (hn.one rfl)
 have ha := hl a (by simp)
 show Row (fun n => ((idx [a] 0).bind fun x21 => ((R2_isSet n x21).bind fun x22 => some ((Ty.mk 1 ([] : Str) ([])), x22)))) _
 simp only [idx0, idx1, Option.bind_some, isSet_eq _ ha]
 show Row _ ((setO a).map fun _ => tyInt)
 cases setO a with
 | none => exact .no tyInt (Ev.ret _) rfl
 | some e => exact .yes tyInt (Ev.ret _) rfl
theorem R2_row_48 {op : Int} (ho : op = 48 ∨ op = 49) {l : List Ty} (hl : ∀ t ∈ l, Top t) (hn : LenOk op l) (nm : Str) (m : Int) (ty : Ty) (ks : List Tm) : Row (fun n => R2_row n (.mk op nm m ty ks) l) (rowO op l) := by
 rcases ho with rfl | rfl <;>
 ·obtain ⟨a, rfl⟩ := one_of l (hn.one rfl)
  have ha := hl a (by simp)
  show Row (fun n => ((idx [a] 0).bind fun x23 => ((R1_SameType n x23 (Ty.mk 5 ([] : Str) ([(Ty.mk 1 ([] : Str) ([]))]))).bind fun x24 => some ((Ty.mk 1 ([] : Str) ([])), x24)))) _
  simp only [idx0, Option.bind_some]
  show Row _ ((setO a).bind fun x => onlyIf (x.kind == 1) tyInt)
  have e : ((setO a).bind fun x => onlyIf (x.kind == 1) tyInt) = (setO a).bind fun x => onlyIf (tyEq x tyInt) tyInt := by
   cases hs : setO a with
   | none => rfl
   | some e => simp only [Option.bind_some]; rw [kindI (.inr (setO_good ha hs).1)]
  rw [e, eqSet ha]
  exact .of tyInt _ (Ev.bind (SameType2_ev a (tySet tyInt)) (Ev.ret _)) rfl
theorem R2_row_50 {l : List Ty} (hl : ∀ t ∈ l, Top t) (hn : LenOk 50 l) (nm : Str) (m : Int) (ty : Ty) (ks : List Tm) : Row (fun n => R2_row n (.mk 50 nm m ty ks) l) (rowO 50 l) := by
 obtain ⟨a, rfl⟩ := one_of l (hn.one rfl)
 have ha := hl a (by simp)
 refine Row.eta (f := fun n => R2_relation n 50 [a]) ?_
 show Row _ ((relO a).map fun x => tySet x.1)
 simp only [R2_relation, Tm.op, idx0, idx1, Option.bind_some, Int.reduceBEq, cond_true, cond_false, ty_eta, isRel_eq _ ha]
 cases hr : relO a with
 | none => exact .no tyZero (Ev.ret _) rfl
 | some x =>
  obtain ⟨x, y⟩ := x
  obtain ⟨_, _, rfl⟩ := relO_good ha hr
  simp only [first_eq, second_eq, Option.bind_some, Option.isSome_some, Bool.not_true, cond_false]
  exact .yes (tySet x) (Ev.ret _) rfl
theorem R2_row_51 {l : List Ty} (hl : ∀ t ∈ l, Top t) (hn : LenOk 51 l) (nm : Str) (m : Int) (ty : Ty) (ks : List Tm) : Row (fun n => R2_row n (.mk 51 nm m ty ks) l) (rowO 51 l) := by
 obtain ⟨a, rfl⟩ := one_of l (hn.one rfl)
 have ha := hl a (by simp)
 refine Row.eta (f := fun n => R2_relation n 51 [a]) ?_
 show Row _ ((relO a).map fun x => tySet x.2)
 simp only [R2_relation, Tm.op, idx0, idx1, Option.bind_some, Int.reduceBEq, cond_true, cond_false, ty_eta, isRel_eq _ ha]
 cases hr : relO a with
 | none => exact .no tyZero (Ev.ret _) rfl
 | some x =>
  obtain ⟨x, y⟩ := x
  obtain ⟨_, _, rfl⟩ := relO_good ha hr
  simp only [first_eq, second_eq, Option.bind_some, Option.isSome_some, Bool.not_true, cond_false]
  exact .yes (tySet y) (Ev.ret _) rfl
theorem R2_row_52 {l : List Ty} (hl : ∀ t ∈ l, Top t) (hn : LenOk 52 l) (nm : Str) (m : Int) (ty : Ty) (ks : List Tm) : Row (fun n => R2_row n (.mk 52 nm m ty ks) l) (rowO 52 l) := by
 obtain ⟨a, rfl⟩ := one_of l (hn.one rfl)
 have ha := hl a (by simp)
 refine Row.eta (f := fun n => R2_relation n 52 [a]) ?_
 show Row _ ((relO a).map fun x => tySet (tyPair x.2 x.1))
 simp only [R2_relation, Tm.op, idx0, idx1, Option.bind_some, Int.reduceBEq, cond_true, cond_false, ty_eta, isRel_eq _ ha]
 cases hr : relO a with
 | none => exact .no tyZero (Ev.ret _) rfl
 | some x =>
  obtain ⟨x, y⟩ := x
  obtain ⟨_, _, rfl⟩ := relO_good ha hr
  simp only [first_eq, second_eq, Option.bind_some, Option.isSome_some, Bool.not_true, cond_false]
  exact .yes (tySet (tyPair y x)) (Ev.ret _) rfl
theorem R2_row_53 {l : List Ty} (hl : ∀ t ∈ l, Top t) (hn : LenOk 53 l) (nm : Str) (m : Int) (ty : Ty) (ks : List Tm) : Row (fun n => R2_row n (.mk 53 nm m ty ks) l) (rowO 53 l) := by
 obtain ⟨a, b, rfl⟩ := two_of l (hn.two rfl)
 have ha := hl a (by simp)
 have hb := hl b (by simp)
 refine Row.eta (f := fun n => R2_relation n 53 [a, b]) ?_
 show Row _ ((relO a).bind fun x => (setO b).bind fun y => onlyIf (tyEq y x.1) (tySet x.2))
 simp only [R2_relation, Tm.op, idx0, idx1, Option.bind_some, Int.reduceBEq, cond_true, cond_false, ty_eta, isRel_eq _ ha]
 cases hr : relO a with
 | none => exact .no tyZero (Ev.ret _) rfl
 | some x =>
  obtain ⟨x, y⟩ := x
  obtain ⟨_, _, rfl⟩ := relO_good ha hr
  simp only [first_eq, second_eq, Option.bind_some, Option.isSome_some, Bool.not_true, cond_false]
  show Row _ ((setO b).bind fun z => onlyIf (tyEq z x) (tySet y))
  rw [eqSet hb]
  exact .of _ _ (Ev.bind (SameType2_ev _ _) (Ev.ret _)) rfl
theorem R2_row_54 {l : List Ty} (hl : ∀ t ∈ l, Top t) (hn : LenOk 54 l) (nm : Str) (m : Int) (ty : Ty) (ks : List Tm) : Row (fun n => R2_row n (.mk 54 nm m ty ks) l) (rowO 54 l) := by
 obtain ⟨a, b, rfl⟩ := two_of l (hn.two rfl)
 have ha := hl a (by simp)
 have hb := hl b (by simp)
 refine Row.eta (f := fun n => R2_relation n 54 [a, b]) ?_
 show Row _ ((relO a).bind fun x => onlyIf (tyEq b x.1) x.2)
 simp only [R2_relation, Tm.op, idx0, idx1, Option.bind_some, Int.reduceBEq, cond_true, cond_false, ty_eta, isRel_eq _ ha]
 cases hr : relO a with
 | none => exact .no tyZero (Ev.ret _) rfl
 | some x =>
  obtain ⟨x, y⟩ := x
  obtain ⟨_, _, rfl⟩ := relO_good ha hr
  simp only [first_eq, second_eq, Option.bind_some, Option.isSome_some, Bool.not_true, cond_false]
  exact .of _ _ (Ev.bind (SameType2_ev _ _) (Ev.ret _)) rfl
theorem R2_row_55 {l : List Ty} (hl : ∀ t ∈ l, Top t) (hn : LenOk 55 l) (nm : Str) (m : Int) (ty : Ty) (ks : List Tm) : Row (fun n => R2_row n (.mk 55 nm m ty ks) l) (rowO 55 l) := by
 obtain ⟨a, b, rfl⟩ := two_of l (hn.two rfl)
 have ha := hl a (by simp)
 have hb := hl b (by simp)
 show Row (fun n => ((((idx [a, b] 0).bind fun x11 => ((idx [a, b] 0).bind fun x12 => ((R2_isSet n x12).bind fun x13 => (cond x13 ((idx [a, b] 1).bind fun x14 => some ((x14.kind == 2), x11.kind, x11.name, x11.kids)) (some (false, x11.kind, x11.name, x11.kids)))))) : Option (Bool × Int × Str × (List Ty))).bind fun s4 => some ((Ty.mk s4.2.1 s4.2.2.1 s4.2.2.2), s4.1))) _
 simp only [idx0, idx1, Option.bind_some, isSet_eq _ ha]
 show Row _ (onlyIf ((setO a).isSome && b.kind == 2) a)
 cases setO a with
 | none => exact .no a (by simp only [Option.isSome_none, cond_false, Option.bind_some, ty_eta]; exact Ev.ret _) rfl
 | some e => exact .of a (b.kind == 2) (by simp only [Option.isSome_some, cond_true, Option.bind_some, ty_eta]; exact Ev.ret _) rfl
theorem R2_row_56 {l : List Ty} (hl : ∀ t ∈ l, Top t) (hn : LenOk 56 l) (nm : Str) (m : Int) (ty : Ty) (ks : List Tm) : Row (fun n => R2_row n (.mk 56 nm m ty ks) l) (rowO 56 l) := by
 obtain ⟨a, b, rfl⟩ := two_of l (hn.two rfl)
 have ha := hl a (by simp)
 have hb := hl b (by simp)
 show Row (fun n => ((((idx [a, b] 0).bind fun x18 => ((R2_isSet n x18).bind fun x19 => (cond (!x19) (some true) ((idx [a, b] 1).bind fun x20 => some (x20.kind == 2))))) : Option Bool).bind fun s5 => (cond s5 (some ((Ty.mk 0 ([] : Str) ([])), false)) ((idx [a, b] 0).bind fun x15 => ((idx x15.kids 0).bind fun x16 => ((idx [a, b] 1).bind fun x17 => some ((Ty.mk 5 ([] : Str) ([(Ty.mk 4 ([] : Str) ([x16, x17]))])), true))))))) _
 simp only [idx0, idx1, Option.bind_some, isSet_eq _ ha]
 show Row _ ((setO a).bind fun x => onlyIf (b.kind != 2) (tySet (tyPair x b)))
 cases hs : setO a with
 | none => exact .no tyZero (Ev.ret _) rfl
 | some e =>
  obtain ⟨_, rfl⟩ := setO_good ha hs
  simp only [Option.isSome_some, Bool.not_true, cond_false, Option.bind_some, bne]
  cases b.kind == 2 with
  | true => exact .no tyZero (Ev.ret _) rfl
  | false => exact .yes (tySet (tyPair e b)) (Ev.ret _) rfl
theorem R2_row_ev {op : Int} (h1 : 1 ≤ op) (h2 : op ≤ 56) (h20 : op ≠ 20) (h29 : op ≠ 29) {l : List Ty} (hl : ∀ t ∈ l, Top t) (hn : LenOk op l) (nm : Str) (m : Int) (ty : Ty) (ks : List Tm) : Row (fun n => R2_row n (.mk op nm m ty ks) l) (rowO op l) := by
 rcases opCases h1 h2 with rfl | rfl | rfl | rfl | rfl | rfl | rfl | rfl | rfl | rfl | rfl | rfl | rfl | rfl | rfl | rfl | rfl | rfl | rfl | rfl | rfl | rfl | rfl | rfl | rfl | rfl | rfl | rfl | rfl | rfl | rfl | rfl | rfl | rfl | rfl | rfl | rfl | rfl | rfl | rfl | rfl | rfl | rfl | rfl | rfl | rfl | rfl | rfl | rfl | rfl | rfl | rfl | rfl | rfl | rfl | rfl
 ·exact R2_row_1 (by decide) hl hn nm m ty ks
 ·exact R2_row_1 (by decide) hl hn nm m ty ks
 ·exact R2_row_3 (by decide) hl hn nm m ty ks
 ·exact R2_row_3 (by decide) hl hn nm m ty ks
 ·exact R2_row_3 (by decide) hl hn nm m ty ks
 ·exact R2_row_3 (by decide) hl hn nm m ty ks
 ·exact R2_row_3 (by decide) hl hn nm m ty ks
 ·exact R2_row_8 (by decide) hl hn nm m ty ks
 ·exact R2_row_8 (by decide) hl hn nm m ty ks
 ·exact R2_row_10 (by decide) hl hn nm m ty ks
 ·exact R2_row_10 (by decide) hl hn nm m ty ks
 ·exact R2_row_12 (by decide) hl hn nm m ty ks
 ·exact R2_row_12 (by decide) hl hn nm m ty ks
 ·exact R2_row_12 (by decide) hl hn nm m ty ks
 ·exact R2_row_12 (by decide) hl hn nm m ty ks
 ·exact R2_row_16 (by decide) hl hn nm m ty ks
 ·exact R2_row_16 (by decide) hl hn nm m ty ks
 ·exact R2_row_18 hl hn nm m ty ks
 ·exact R2_row_19 hl hn nm m ty ks
 ·exact absurd rfl h20
 ·exact R2_row_21 (by decide) hl hn nm m ty ks
 ·exact R2_row_21 (by decide) hl hn nm m ty ks
 ·exact R2_row_21 (by decide) hl hn nm m ty ks
 ·exact R2_row_21 (by decide) hl hn nm m ty ks
 ·exact R2_row_21 (by decide) hl hn nm m ty ks
 ·exact R2_row_21 (by decide) hl hn nm m ty ks
 ·exact R2_row_27 hl hn nm m ty ks
 ·exact R2_row_28 hl hn nm m ty ks
 ·exact absurd rfl h29
 ·exact R2_row_30 hl hn nm m ty ks
 ·exact R2_row_31 (by decide) hl hn nm m ty ks
 ·exact R2_row_31 (by decide) hl hn nm m ty ks
 ·exact R2_row_31 (by decide) hl hn nm m ty ks
 ·exact R2_row_34 hl hn nm m ty ks
 ·exact R2_row_35 hl hn nm m ty ks
 ·exact R2_row_36 hl hn nm m ty ks
 ·exact R2_row_37 (by decide) hl hn nm m ty ks
 ·exact R2_row_37 (by decide) hl hn nm m ty ks
 ·exact R2_row_39 (by decide) hl hn nm m ty ks
 ·exact R2_row_39 (by decide) hl hn nm m ty ks
 ·exact R2_row_41 (by decide) hl hn nm m ty ks
 ·exact R2_row_41 (by decide) hl hn nm m ty ks
 ·exact R2_row_41 (by decide) hl hn nm m ty ks
 ·exact R2_row_41 (by decide) hl hn nm m ty ks
 ·exact R2_row_41 (by decide) hl hn nm m ty ks
 ·exact R2_row_46 hl hn nm m ty ks
 ·exact R2_row_47 hl hn nm m ty ks
 ·exact R2_row_48 (by decide) hl hn nm m ty ks
 ·exact R2_row_48 (by decide) hl hn nm m ty ks
 ·exact R2_row_50 hl hn nm m ty ks
 ·exact R2_row_51 hl hn nm m ty ks
 ·exact R2_row_52 hl hn nm m ty ks
 ·exact R2_row_53 hl hn nm m ty ks
 ·exact R2_row_54 hl hn nm m ty ks
 ·exact R2_row_55 hl hn nm m ty ks
 ·exact R2_row_56 hl hn nm m ty ks
end Abs
end Go.Proofs.YtiiaccpcoclklaaGreat
namespace Go.Proofs.YtiiaccpcoclklaaGreat
namespace Abs
open Go
theorem loopG {α σ τ ρ : Type} (l : List α) (L : Nat → Nat → Int → σ → Option (LR τ ρ)) (step : Nat → Int → α → σ → Option (LR σ ρ)) (st : Int → α → σ → LR σ ρ) (fin : σ → τ) (I : Int → List α → σ → Prop)
  (h0 : ∀ n k s, L n (k + 1) (l.length : Int) s = some (.nx (fin s)))
  (h1 : ∀ n k i x s, idx l i = some x → decide (i < (l.length : Int)) = true → L n (k + 1) i s = (step n i x s).bind (LR.el (fun s' => L n k (i + 1) s') (fun r => some (.rt r))))
  (hI : ∀ i x suf s, x ∈ l → I i (x :: suf) s → idx l i = some x → Ev (fun n => step n i x s) (st i x s) ∧ ∀ s', st i x s = .nx s' → I (i + 1) suf s') {s0 : σ} (hs0 : I 0 l s0) : Ev (fun n => L n n 0 s0) (runI st fin 0 l s0) := by
 have key : ∀ (suf pre : List α) (s : σ), l = pre ++ suf → I (pre.length : Int) suf s → ∃ N, ∀ n, N ≤ n → ∀ k, suf.length + 1 ≤ k → L n k (pre.length : Int) s = some (runI st fin (pre.length : Int) suf s) := by
  intro suf
  induction suf with
  | nil =>
   intro pre s hl _
   refine ⟨0, fun n _ k hk => ?_⟩
   cases k with
   | zero => simp at hk
   | succ k =>
    have e : pre.length = l.length := by rw [hl]; simp
    rw [e, h0]
    rfl
  | cons x suf ih =>
   intro pre s hl hIs
   have hx : idx l (pre.length : Int) = some x := by rw [hl]; exact idx_at pre x suf
   obtain ⟨⟨N1, k1⟩, k2⟩ := hI _ x suf s (by rw [hl]; simp) hIs hx
   replace k1 : ∀ n, N1 ≤ n → step n (pre.length : Int) x s = some (st (pre.length : Int) x s) := k1
   have hi : decide ((pre.length : Int) < (l.length : Int)) = true := decide_eq_true (by rw [hl]; simp; omega)
   cases hs : st (pre.length : Int) x s with
   | rt r =>
    refine ⟨N1, fun n hn k hk => ?_⟩
    cases k with
    | zero => simp at hk
    | succ k =>
     rw [h1 n k _ x s hx hi, k1 n hn, hs]
     simp [runI, hs]
   | nx s' =>
    have h3 := k2 s' hs
    have e : ((pre ++ [x]).length : Int) = (pre.length : Int) + 1 := by simp
    obtain ⟨N2, h4⟩ := ih (pre ++ [x]) s' (by rw [hl]; simp) (by rw [e]; exact h3)
    refine ⟨max N1 N2, fun n hn k hk => ?_⟩
    cases k with
    | zero => simp at hk
    | succ k =>
     rw [h1 n k _ x s hx hi, k1 n (by omega), hs]
     simp only [Option.bind_some, LR.el]
     have := h4 n (by omega) k (by simp at hk; omega)
     rw [e] at this
     rw [this]
     simp [runI, hs]
 obtain ⟨N, hN⟩ := key l [] s0 rfl hs0
 exact ⟨max N (l.length + 1), fun n hn => hN n (by omega) n (by omega)⟩
def Wf (d : Int) (t : Tm) : Prop := ∃ c, 0 ≤ c ∧ (mf t d c).1 = true
theorem mfs_len : ∀ (ts : List Tm) (d c : Int), 0 ≤ c → (mfs ts d c).1 = true → c + ts.length ≤ (mfs ts d c).2 ∧ ∀ t ∈ ts, Wf d t
 | [], _, c, _, _ => by simp [mfs]
 | t :: ts, d, c, h0, h => by
  simp only [mfs] at h ⊢
  cases hb : (mf t d c).1 with
  | false => rw [hb] at h; cases h
  | true =>
   rw [hb] at h
   simp only [cond_true] at h ⊢
   have h1 := mf_le t d c hb
   obtain ⟨h2, h3⟩ := mfs_len ts d _ (by omega) h
   refine ⟨by simp only [List.length_cons]; omega, fun u hu => ?_⟩
   rcases List.mem_cons.1 hu with rfl | hu
   ·exact ⟨_, h0, hb⟩
   ·exact h3 u hu
theorem Wf.node {op : Int} {nm : Str} {m : Int} {ty : Ty} {ks : List Tm} {d : Int} (h : Wf d (.mk op nm m ty ks)) : nodeB (.mk op nm m ty ks) = true ∧ d ≤ 64 ∧ ks.length ≤ 2000 ∧ ∀ t ∈ ks, Wf (d + 1) t := by
 obtain ⟨c, h0, h⟩ := h
 simp only [mf] at h
 cases hb : ((decide (c + 1 ≤ 2000) && decide (d ≤ 64)) && nodeB (.mk op nm m ty ks)) with
 | false => rw [hb] at h; cases h
 | true =>
  rw [hb] at h
  simp only [cond_true] at h
  simp only [Bool.and_eq_true, decide_eq_true_eq] at hb
  obtain ⟨h1, h2⟩ := mfs_len _ _ _ (by omega) h
  have h3 := mfs_le ks _ _ h
  exact ⟨hb.2, hb.1.2, by have := h3.2 hb.1.1; omega, h2⟩
theorem valid_wf {t : Tm} (h : validM t = true) : Wf 1 t := ⟨0, by omega, h⟩
theorem kids_range {op : Int} (h : (kidsN op == -2) = false) : 1 ≤ op ∧ op ≤ 56 := by
 by_cases hr : 1 ≤ op ∧ op ≤ 56
 ·exact hr
 ·exfalso
  have e : kidsN op = -2 := by
   unfold kidsN
   have h1 : (op == 1 || (op == 2 || (op == 19 || (op == 20 || op == 29)))) = false := by
    simp only [Bool.or_eq_false_iff, beq_eq_false_iff_ne]
    omega
   have h2 : (op == 3 || (op == 21 || (decide (46 ≤ op) && decide (op ≤ 52)))) = false := by
    simp only [Bool.or_eq_false_iff, beq_eq_false_iff_ne, Bool.and_eq_false_iff, decide_eq_false_iff_not]
    omega
   have h3 : (op == 28) = false := by
    simp only [beq_eq_false_iff_ne]
    omega
   have h4 : (decide (4 ≤ op) && decide (op ≤ 56)) = false := by
    simp only [Bool.and_eq_false_iff, decide_eq_false_iff_not]
    omega
   rw [h1, h2, h3, h4]
   rfl
  rw [e] at h
  cases h
theorem node_kids {op : Int} {nm : Str} {m : Int} {ty : Ty} {ks : List Tm} (h : nodeB (.mk op nm m ty ks) = true) : (1 ≤ op ∧ op ≤ 56) ∧ (op = 20 → ks = []) ∧ (op = 29 → ks = [] ∧ validT ty = true ∧ (ty.kind == 2) = false) ∧ (∀ l : List Ty, l.length = ks.length → LenOk op l) ∧ (bindB op = true → ∃ x y, ks = [x, y]) := by
 simp only [nodeB, Bool.and_eq_true, lenTB, Tm.op, Tm.kids, Bool.not_eq_true'] at h
 obtain ⟨⟨h1, h2⟩, _, _, h5⟩ := h
 have hlen : ∀ q : Int, kidsN op = q → (q == -1) = false → (ks.length : Int) = q := fun q e hq => by
  rw [e, hq] at h2
  simpa using h2
 have hnil : kidsN op = 0 → ks = [] := fun e => by
  have := hlen 0 e rfl
  exact List.length_eq_zero_iff.1 (by omega)
 refine ⟨kids_range h1, fun e => hnil (by subst e; rfl), fun e => ⟨hnil (by subst e; rfl), ?_⟩, fun l hl => ⟨fun e => by rw [hl]; exact hlen 1 e rfl, fun e => by rw [hl]; exact hlen 2 e rfl, fun e => ?_⟩, fun hb => ?_⟩
 ·subst e
  have h5' : (validT ty && ty.kind != 2) = true := h5
  simp only [Bool.and_eq_true, bne_iff_ne, ne_eq] at h5'
  exact ⟨h5'.1, by simpa using h5'.2⟩
 ·rintro rfl
  rw [e] at h2
  have : ks = [] := List.length_eq_zero_iff.1 hl.symm
  subst this
  cases h2
 ·have : kidsN op = 2 := by
   simp only [bindB, Bool.or_eq_true, beq_iff_eq] at hb
   rcases hb with rfl | rfl | rfl | rfl <;> rfl
  obtain ⟨x, y, e⟩ := two_of ks (hlen 2 this rfl)
  exact ⟨x, y, e⟩
inductive TR where
 | ok (t : Ty)
 | er (e : Int) (p : List Int)
inductive KR where
 | ok (l : List Ty)
 | er (e : Int) (p : List Int)
def lookS (env : Env) (sc : List Decl) (s : Str) : Option Ty := match sc.find? (fun d => d.name == s) with | some d => some d.ty | none => look env s
def finT (o : Option Ty) : TR := match o with | some t => cond (validT t) (.ok t) (.er 5 []) | none => .er 7 []
def knows (env : Env) (t : Ty) : Bool := (carsT t).all (hasCar env)
def bindS (b : Bool) (nm : Str) (ty : Ty) (sc : List Decl) : Option (List Decl) := cond b ((setO ty).map fun e => ⟨nm, e⟩ :: sc) (some sc)
mutual
def tyOf (env : Env) : List Decl → Tm → TR
 | sc, .mk op nm _ ty ks =>
  cond (op == 20) (match lookS env sc nm with | some t => .ok t | none => .er 6 [])
   (cond (op == 29 && !(knows env ty)) (.er 6 [])
    (match tyKs env sc (bindB op) nm 0 ks with
     | .er e p => .er e p
     | .ok l => finT (cond (op == 29) (some (tySet ty)) (rowO op l))))
def tyKs (env : Env) : List Decl → Bool → Str → Int → List Tm → KR
 | _, _, _, _, [] => .ok []
 | sc, b, nm, i, t :: ts => match tyOf env sc t with
  | .er e p => .er e (i :: p)
  | .ok ty => match bindS b nm ty sc with
   | none => .er 7 []
   | some sc' => match tyKs env sc' false nm (i + 1) ts with
    | .er e p => .er e p
    | .ok l => .ok (ty :: l)
end
def GoodS (sc : List Decl) : Prop := ∀ d ∈ sc, Good d.ty
theorem validT_good {t : Ty} (h : validT t = true) (hb : hasK 2 t = false) : Good t := by
 rcases valid_top h with rfl | h
 ·cases hb
 ·exact h
theorem look_good {env : Env} (h : validE env = true) {s : Str} {t : Ty} (ht : look env s = some t) : Good t := by
 rw [look_mem h] at ht
 unfold assoc1 at ht
 rcases List.mem_append.1 ht with ht | ht
 ·obtain ⟨c, hc, ht⟩ := List.mem_flatMap.1 ht
  unfold carAssoc at ht
  rcases List.mem_cons.1 ht with ht | ht
  ·cases ht; exact .set (.car _)
  ·obtain ⟨e, _, he⟩ := List.mem_map.1 ht
   cases he; exact .car _
 ·obtain ⟨d, hd, he⟩ := List.mem_map.1 ht
  cases he
  obtain ⟨_, h1, h2, _⟩ := valid_decl h hd
  exact validT_good h1 h2
theorem lookS_good {env : Env} (h : validE env = true) {sc : List Decl} (hs : GoodS sc) {s : Str} {t : Ty} (ht : lookS env sc s = some t) : Good t := by
 unfold lookS at ht
 cases hf : sc.find? (fun d => d.name == s) with
 | some d => rw [hf] at ht; cases ht; exact hs d (List.mem_of_find?_eq_some hf)
 | none => rw [hf] at ht; exact look_good h ht
theorem finT_ok {o : Option Ty} {t : Ty} (h : finT o = .ok t) : o = some t ∧ validT t = true := by
 cases o with
 | none => cases h
 | some u =>
  simp only [finT] at h
  cases hv : validT u with
  | false => rw [hv] at h; cases h
  | true => rw [hv] at h; cases h; exact ⟨rfl, hv⟩
theorem finT_er {o : Option Ty} {e : Int} {p : List Int} (h : finT o = .er e p) : e ≠ 0 ∧ p = [] := by
 cases o with
 | none => cases h; exact ⟨by decide, rfl⟩
 | some u =>
  simp only [finT] at h
  cases hv : validT u with
  | false => rw [hv] at h; cases h; exact ⟨by decide, rfl⟩
  | true => rw [hv] at h; cases h
theorem bindS_good {b : Bool} {nm : Str} {ty : Ty} {sc sc' : List Decl} (ht : Top ty) (hs : GoodS sc) (h : bindS b nm ty sc = some sc') : GoodS sc' := by
 unfold bindS at h
 cases b with
 | false => cases h; exact hs
 | true =>
  simp only [cond_true] at h
  cases he : setO ty with
  | none => rw [he] at h; cases h
  | some e =>
   rw [he] at h
   cases h
   intro d hd
   rcases List.mem_cons.1 hd with rfl | hd
   ·exact (setO_good ht he).1
   ·exact hs d hd
theorem tyOf_top {env : Env} (h : validE env = true) {t : Tm} {sc : List Decl} (hs : GoodS sc) {ty : Ty} (ht : tyOf env sc t = .ok ty) : Top ty := by
 obtain ⟨op, nm, m, u, ks⟩ := t
 simp only [tyOf] at ht
 cases h20 : (op == 20) with
 | true =>
  rw [h20] at ht
  simp only [cond_true] at ht
  cases hl : lookS env sc nm with
  | none => rw [hl] at ht; cases ht
  | some t => rw [hl] at ht; cases ht; exact .inr (lookS_good h hs hl)
 | false =>
  rw [h20] at ht
  simp only [cond_false] at ht
  cases h29 : (op == 29 && !(knows env u)) with
  | true => rw [h29] at ht; cases ht
  | false =>
   rw [h29] at ht
   simp only [cond_false] at ht
   cases hk : tyKs env sc (bindB op) nm 0 ks with
   | er e p => rw [hk] at ht; cases ht
   | ok l => rw [hk] at ht; exact valid_top (finT_ok ht).2
theorem tyKs_ok {env : Env} (h : validE env = true) : ∀ (ts : List Tm) (sc : List Decl) (b : Bool) (nm : Str) (i : Int) (l : List Ty), GoodS sc → tyKs env sc b nm i ts = .ok l → l.length = ts.length ∧ (∀ t ∈ l, Top t) ∧ (b = true → ts ≠ [] → (setO (l.headD tyZero)).isSome = true)
 | [], sc, b, nm, i, l, _, hk => by
  simp only [tyKs] at hk
  cases hk
  exact ⟨rfl, fun t ht => (by cases ht), fun _ h => absurd rfl h⟩
 | t :: ts, sc, b, nm, i, l, hs, hk => by
  simp only [tyKs] at hk
  cases ht : tyOf env sc t with
  | er e p => rw [ht] at hk; cases hk
  | ok ty =>
   rw [ht] at hk
   simp only at hk
   have htop := tyOf_top h hs ht
   cases hb : bindS b nm ty sc with
   | none => rw [hb] at hk; cases hk
   | some sc' =>
    rw [hb] at hk
    simp only at hk
    cases hr : tyKs env sc' false nm (i + 1) ts with
    | er e p => rw [hr] at hk; cases hk
    | ok l' =>
     rw [hr] at hk
     cases hk
     obtain ⟨h1, h2, _⟩ := tyKs_ok h ts sc' false nm (i + 1) l' (bindS_good htop hs hb) hr
     refine ⟨by simp [h1], fun u hu => ?_, fun hbt _ => ?_⟩
     ·rcases List.mem_cons.1 hu with rfl | hu
      ·exact htop
      ·exact h2 u hu
     ·subst hbt
      show (setO ty).isSome = true
      unfold bindS at hb
      cases he : setO ty with
      | none => rw [he] at hb; cases hb
      | some e => rfl
mutual
theorem tyOf_er {env : Env} : ∀ (t : Tm) (sc : List Decl) (e : Int) (p : List Int), tyOf env sc t = .er e p → e ≠ 0
 | .mk op nm m u ks, sc, e, p, h => by
  simp only [tyOf] at h
  cases h20 : (op == 20) with
  | true =>
   rw [h20] at h
   simp only [cond_true] at h
   cases hl : lookS env sc nm with
   | none => rw [hl] at h; cases h; decide
   | some t => rw [hl] at h; cases h
  | false =>
   rw [h20] at h
   simp only [cond_false] at h
   cases h29 : (op == 29 && !(knows env u)) with
   | true => rw [h29] at h; cases h; decide
   | false =>
    rw [h29] at h
    simp only [cond_false] at h
    cases hk : tyKs env sc (bindB op) nm 0 ks with
    | er e' p' => rw [hk] at h; cases h; exact tyKs_er ks sc _ nm 0 _ _ hk
    | ok l => rw [hk] at h; exact (finT_er h).1
theorem tyKs_er {env : Env} : ∀ (ts : List Tm) (sc : List Decl) (b : Bool) (nm : Str) (i : Int) (e : Int) (p : List Int), tyKs env sc b nm i ts = .er e p → e ≠ 0
 | [], sc, b, nm, i, e, p, h => by simp only [tyKs] at h; cases h
 | t :: ts, sc, b, nm, i, e, p, h => by
  simp only [tyKs] at h
  cases ht : tyOf env sc t with
  | er e' p' => rw [ht] at h; cases h; exact tyOf_er t sc _ _ ht
  | ok ty =>
   rw [ht] at h
   simp only at h
   cases hb : bindS b nm ty sc with
   | none => rw [hb] at h; cases h; decide
   | some sc' =>
    rw [hb] at h
    simp only at h
    cases hr : tyKs env sc' false nm (i + 1) ts with
    | er e' p' => rw [hr] at h; cases h; exact tyKs_er ts sc' false nm _ _ _ hr
    | ok l' => rw [hr] at h; cases h
end
mutual
theorem tyOf_path {env : Env} : ∀ {t : Tm} {d : Int} (_ : Wf d t) (sc : List Decl) (e : Int) (p : List Int), tyOf env sc t = .er e p → (p.length : Int) + d ≤ 64
 | .mk op nm m u ks, d, hw, sc, e, p, h => by
  obtain ⟨_, hd, _, hkw⟩ := hw.node
  simp only [tyOf] at h
  cases h20 : (op == 20) with
  | true =>
   rw [h20] at h
   simp only [cond_true] at h
   cases hl : lookS env sc nm with
   | none => rw [hl] at h; cases h; simpa using hd
   | some t => rw [hl] at h; cases h
  | false =>
   rw [h20] at h
   simp only [cond_false] at h
   cases h29 : (op == 29 && !(knows env u)) with
   | true => rw [h29] at h; cases h; simpa using hd
   | false =>
    rw [h29] at h
    simp only [cond_false] at h
    cases hk : tyKs env sc (bindB op) nm 0 ks with
    | er e' p' => rw [hk] at h; cases h; exact tyKs_path ks d hd hkw sc _ nm 0 _ _ hk
    | ok l => rw [hk] at h; rw [(finT_er h).2]; simpa using hd
theorem tyKs_path {env : Env} : ∀ (ts : List Tm) (d : Int) (_ : d ≤ 64) (_ : ∀ t ∈ ts, Wf (d + 1) t) (sc : List Decl) (b : Bool) (nm : Str) (i : Int) (e : Int) (p : List Int), tyKs env sc b nm i ts = .er e p → (p.length : Int) + d ≤ 64
 | [], d, _, _, sc, b, nm, i, e, p, h => by simp only [tyKs] at h; cases h
 | t :: ts, d, hd, hw, sc, b, nm, i, e, p, h => by
  simp only [tyKs] at h
  cases ht : tyOf env sc t with
  | er e' p' =>
   rw [ht] at h
   cases h
   have := tyOf_path (hw t (List.mem_cons_self ..)) sc _ _ ht
   simp only [List.length_cons, Int.natCast_add, Int.natCast_one]
   omega
  | ok ty =>
   rw [ht] at h
   simp only at h
   cases hb : bindS b nm ty sc with
   | none => rw [hb] at h; cases h; simpa using hd
   | some sc' =>
    rw [hb] at h
    simp only at h
    cases hr : tyKs env sc' false nm (i + 1) ts with
    | er e' p' => rw [hr] at h; cases h; exact tyKs_path ts d hd (fun u hu => hw u (List.mem_cons_of_mem _ hu)) sc' false nm _ _ _ hr
    | ok l' => rw [hr] at h; cases h
end
end Abs
end Go.Proofs.YtiiaccpcoclklaaGreat
namespace Go.Proofs.YtiiaccpcoclklaaGreat
namespace Abs
open Go
def nameMap (env : Env) : List (Str × Ty) := putAll (assoc1 env) []
def carMap (env : Env) : List (Str × Bool) := putAll (env.carriers.map fun c => (c.name, true)) []
theorem find_nameMap {env : Env} (h : validE env = true) (s : Str) : mfind (nameMap env) s = look env s := by
 unfold nameMap
 rw [mfind_putAll _ _ _ (assoc1_nodup h), mfind_nil]
 unfold look
 rw [← mfind_perm (assoc_perm env) (assoc1_nodup h)]
 cases mfind (assoc1 env) s <;> rfl
theorem find_carMap {env : Env} (h : validE env = true) (s : Str) : mfind (carMap env) s = cond (hasCar env s) (some true) none := by
 unfold carMap
 have hn : ((env.carriers.map fun c => (c.name, true)).map (·.1)).Nodup := by
  have := (valid_parts h).2.2.2.2
  unfold names2 at this
  rw [List.map_map]
  exact (List.nodup_append.1 this).1
 rw [mfind_putAll _ _ _ hn, mfind_nil, mfind_map (fun c : Carrier => c.name) (fun _ => true)]
 unfold hasCar
 cases hf : env.carriers.find? (fun c => c.name == s) with
 | none =>
  have : (env.carriers.any fun c => c.name == s) = false := by
   rw [List.any_eq_false]
   intro x hx
   simpa using List.find?_eq_none.1 hf x hx
  rw [this]
  rfl
 | some c =>
  have : (env.carriers.any fun c => c.name == s) = true := List.any_eq_true.2 ⟨c, List.mem_of_find?_eq_some hf, by have := List.find?_some hf; simpa using this⟩
  rw [this]
  rfl
theorem newChecker_ev {env : Env} (h : validE env = true) : Ev (fun n => typing_newChecker n env) (nameMap env, carMap env) := by
 obtain ⟨hc8, _⟩ := valid_parts h
 unfold typing_newChecker
 refine Ev.bind (names_ev h) ?_
 have h1 := loopFold (ρ := (List (Str × Ty)) × (List (Str × Bool))) env.carriers (fun n k i s => typing_newChecker_L0 n env k (i, s)) (fun n x s => mput s x.name true) (fun x s => mputL s x.name true) (fun s => s) (fun suf s => s.length + suf.length ≤ 1000)
  (fun n k i s => rfl)
  (fun x suf s hx hs => by
   simp only [List.length_cons] at hs
   refine ⟨?_, ?_⟩
   ·rw [mput_eq (by omega)]; exact Ev.ret _
   ·have := mput_len s x.name true; omega) (s0 := []) (by simp; omega)
 have hf : ∀ (cs : List Carrier) (m : List (Str × Bool)), cs.foldl (fun s x => mputL s x.name true) m = putAll (cs.map fun c => (c.name, true)) m := by
  intro cs
  induction cs with
  | nil => intro m; rfl
  | cons e es ih => intro m; rw [List.foldl_cons, ih]; rfl
 rw [hf] at h1
 exact Ev.bind h1 (Ev.ret _)
theorem known_ev {env : Env} (h : validE env = true) {t : Ty} (ht : validT t = true) (M : List (Str × Ty)) (path : List Int) : Ev (fun n => typing_checker_known n M (carMap env) path t) (knows env t) := by
 unfold typing_checker_known slices_ContainsFunc_string_1 slices_IndexFunc_string_1 knows
 refine Ev.bind (typing_Carriers_ev ht) ?_
 generalize hl : ((putAll ((carsT t).map fun s => (s, true)) []).map (·.1)).mergeSort leS = l
 have hm : ∀ s, s ∈ l ↔ s ∈ carsT t := fun s => by rw [← hl]; exact Carriers_mem t s
 have hf := loopFind l (fun n k i => slices_IndexFunc_string_1_L0 n l M (carMap env) path k i) (fun n x => typing_checker_known_1 n x M (carMap env) path) (fun s => !(hasCar env s)) (fun n k i => rfl) (fun x _ => by
  unfold typing_checker_known_1
  rw [find_carMap h]
  cases hasCar env x
  ·exact Ev.ret _
  ·exact Ev.ret _)
 refine Ev.bind (a := l.any fun s => !(hasCar env s)) (Ev.bind hf ?_) ?_
 ·rw [findI_ge _ _ _ (Int.le_refl _)]
  exact Ev.ret _
 ·rw [any_not, Bool.not_not]
  have : l.all (hasCar env) = (carsT t).all (hasCar env) := by
   have h : (l.all (hasCar env) = true) ↔ ((carsT t).all (hasCar env) = true) := by simp only [List.all_eq_true, hm]
   cases h1 : l.all (hasCar env) <;> cases h2 : (carsT t).all (hasCar env) <;> simp_all
  rw [this]
  exact Ev.ret _
theorem typing_binder_eq (n : Nat) (op : Int) : typing_binder n op = some (bindB op) := by
 unfold typing_binder bindB
 simp only [orC, Option.bind_some]
theorem bounded_ev (t : Ty) : Ev (fun n => typing_bounded n t) (cond (validT t) (t, 0) (tyZero, 5)) := by
 unfold typing_bounded
 refine Ev.bind (term_ValidType_ev t) ?_
 cases validT t
 ·exact Ev.ret _
 ·exact Ev.ret _
def scP (o : Option Decl) : Ty × Bool := match o with | some d => (d.ty, true) | none => (tyZero, false)
theorem scope_lookup_ev (sc : List Decl) (s : Str) : Ev (fun n => typing_scope_lookup n sc s) (scP (sc.find? fun d => d.name == s)) := by
 have key : ∀ (sc : List Decl) (n k : Nat), sc.length + 1 ≤ k → typing_scope_lookup_L0 n s k sc = some (match sc.find? (fun d => d.name == s) with | some d => .rt (d.ty, true) | none => .nx ()) := by
  intro sc
  induction sc with
  | nil =>
   intro n k hk
   cases k with
   | zero => simp at hk
   | succ k => rfl
  | cons d sc ih =>
   intro n k hk
   cases k with
   | zero => simp at hk
   | succ k =>
    show cond (d.name == s) (some (.rt (d.ty, true))) (typing_scope_lookup_L0 n s k sc) = _
    simp only [List.find?_cons]
    cases hd : d.name == s with
    | true => rfl
    | false => exact ih n k (by simp at hk; omega)
 unfold typing_scope_lookup
 have h1 : Ev (fun n => typing_scope_lookup_L0 n s n sc) (match sc.find? (fun d => d.name == s) with | some d => .rt (d.ty, true) | none => .nx ()) := ⟨sc.length + 1, fun n hn => key sc n n hn⟩
 refine Ev.bind h1 ?_
 cases sc.find? fun d => d.name == s
 ·exact Ev.ret _
 ·exact Ev.ret _
def resC (path : List Int) (r : TR) : Ty × Int × List Int := match r with | .ok t => (t, 0, path) | .er e p => (tyZero, e, path ++ p)
abbrev CS := List Decl × List Ty × List Int
def stepC (env : Env) (n : Nat) (t : Tm) (i : Int) (s : CS) : Option (LR CS (Ty × Int × List Int)) := (typing_checker_child n (nameMap env) (carMap env) s.2.2 t i s.1).bind fun (x57 : Ty × Int × (List Int)) => (cond (x57.2.1 != 0) (some (.rt ((Ty.mk 0 ([] : Str) ([])), x57.2.1, x57.2.2))) ((app 48 s.2.1 ([x57.1])).bind fun (x58 : List Ty) => (((cond (i == 0) ((typing_binder n t.op).bind fun (x60 : Bool) => some x60) (some false)) : Option Bool).bind fun (s6 : Bool) => (cond s6 ((typing_elementOf n x57.1).bind fun (x59 : Ty × Bool) => (cond (!x59.2) (some (.rt ((Ty.mk 0 ([] : Str) ([])), 7, x57.2.2))) (some (.nx (((Decl.mk t.name x59.1) :: s.1), x58, x57.2.2))))) (some (.nx (s.1, x58, x57.2.2)))))))
def stC (env : Env) (op : Int) (nm : Str) (i : Int) (x : Tm) (s : CS) : LR CS (Ty × Int × List Int) := match tyOf env s.1 x with
 | .er e p => .rt (tyZero, e, s.2.2 ++ i :: p)
 | .ok ty => match bindS (i == 0 && bindB op) nm ty s.1 with
  | none => .rt (tyZero, 7, s.2.2)
  | some sc' => .nx (sc', s.2.1 ++ [ty], s.2.2)
theorem stC_run (env : Env) (op : Int) (nm : Str) : ∀ (ts : List Tm) (i : Int) (sc : List Decl) (acc : List Ty) (path : List Int), 0 ≤ i → (match tyKs env sc (i == 0 && bindB op) nm i ts with
  | .er e p => runI (stC env op nm) (fun s => s) i ts (sc, acc, path) = .rt (tyZero, e, path ++ p)
  | .ok l => ∃ sc', runI (stC env op nm) (fun s => s) i ts (sc, acc, path) = .nx (sc', acc ++ l, path))
 | [], i, sc, acc, path, _ => by
  simp only [tyKs, runI, List.append_nil]
  exact ⟨sc, rfl⟩
 | t :: ts, i, sc, acc, path, hi => by
  simp only [tyKs, runI, stC]
  cases ht : tyOf env sc t with
  | er e p => rfl
  | ok ty =>
   simp only
   cases hb : bindS (i == 0 && bindB op) nm ty sc with
   | none => simp only [List.append_nil]
   | some sc' =>
    simp only
    have hz : (i + 1 == 0) = false := by simp only [beq_eq_false_iff_ne]; omega
    have := stC_run env op nm ts (i + 1) sc' (acc ++ [ty]) path (by omega)
    rw [hz, Bool.false_and] at this
    cases hr : tyKs env sc' false nm (i + 1) ts with
    | er e p => rw [hr] at this; exact this
    | ok l =>
     rw [hr] at this
     obtain ⟨sc2, h2⟩ := this
     exact ⟨sc2, by rw [h2]; simp⟩
def CheckE (env : Env) (t : Tm) : Prop := ∀ (d : Int) (sc : List Decl) (path : List Int), Wf d t → GoodS sc → (path.length : Int) < d → Ev (fun n => typing_checker_of n (nameMap env) (carMap env) path t sc) (resC path (tyOf env sc t))
theorem scut_last (path : List Int) (i : Int) (h : path.length ≤ 1000) : scut (path ++ [i]) 0 (IntKind.wrap .i64 (((path ++ [i]).length : Int) - 1)) = some path := by
 have e : ((path ++ [i]).length : Int) - 1 = (path.length : Int) := by simp
 rw [e, wrap64 (by omega) (by omega), scut_all _ _ (by simp)]
 simp
theorem child_ev {env : Env} {t x : Tm} {i : Int} (hx : idx t.kids i = some x) (hc : CheckE env x) {d : Int} {sc : List Decl} {path : List Int} (hw : Wf (d + 1) x) (hs : GoodS sc) (hp : (path.length : Int) < d) (hd : d ≤ 64) :
  Ev (fun n => typing_checker_child n (nameMap env) (carMap env) path t i sc) (match tyOf env sc x with | .ok ty => (ty, 0, path) | .er e p => (tyZero, e, path ++ i :: p)) := by
 refine Ev.succ ?_
 show Ev (fun n => typing_checker_child_body n _ _ (nameMap env) (carMap env) path t i sc) _
 unfold typing_checker_child_body
 rw [app_eq (by simp; omega) (by omega), hx]
 simp only [Option.bind_some]
 refine Ev.bind (hc (d + 1) sc (path ++ [i]) hw hs (by simp; omega)) ?_
 cases ht : tyOf env sc x with
 | ok ty =>
  simp only [resC]
  refine Ev.bind (a := path) ?_ (Ev.ret _)
  simp only [show ((0 : Int) == 0) = true from rfl, cond_true]
  rw [scut_last path i (by omega)]
  exact Ev.ret _
 | er e p =>
  have he := tyOf_er x sc e p ht
  have e0 : (e == 0) = false := by simpa using he
  simp only [resC, e0, cond_false, Option.bind_some, List.append_assoc, List.singleton_append]
  exact Ev.ret _
theorem bodyC_eq (n : Nat) (r1 : (List (Str × Ty)) → (List (Str × Bool)) → (List Int) → Tm → (List Decl) → Option (Ty × Int × (List Int))) (r2 : (List (Str × Ty)) → (List (Str × Bool)) → (List Int) → Tm → Int → (List Decl) → Option (Ty × Int × (List Int))) (p0 : List (Str × Ty)) (p1 : List (Str × Bool)) (p2 : List Int) (p3 : Tm) (p4 : List Decl) :
  typing_checker_of_body n r1 r2 p0 p1 p2 p3 p4 = ((typing_checker_of_L0 n r1 r2 p0 p1 p3 n (p4, ([] : List Ty), 0, p2)).bind (LR.el (fun (s2 : (List Decl) × (List Ty) × (List Int)) => (cond (p3.op == 20) ((typing_scope_lookup n s2.1 p3.name).bind fun (x1 : Ty × Bool) => (cond x1.2 (some (x1.1, 0, s2.2.2)) (((mel (mfind p0 p3.name) (some (false, 0, ([] : Str), ([] : List Ty))) (fun (x2 : Ty) => some (true, x2.kind, x2.name, x2.kids))) : Option (Bool × Int × Str × (List Ty))).bind fun (s3 : Bool × Int × Str × (List Ty)) => (cond (!s3.1) (some ((Ty.mk 0 ([] : Str) ([])), 6, s2.2.2)) (some ((Ty.mk s3.2.1 s3.2.2.1 s3.2.2.2), 0, s2.2.2)))))) (cond (p3.op == 29) ((typing_checker_known n p0 p1 s2.2.2 p3.ty).bind fun (x3 : Bool) => (cond (!x3) (some ((Ty.mk 0 ([] : Str) ([])), 6, s2.2.2)) ((typing_bounded n (Ty.mk 5 ([] : Str) ([p3.ty]))).bind fun (x4 : Ty × Int) => some (x4.1, x4.2, s2.2.2)))) ((chainF n p3.op s2.2.1).bind fun (s4 : Bool × Int × Str × (List Ty)) => (cond (!s4.1) (some ((Ty.mk 0 ([] : Str) ([])), 7, s2.2.2)) ((typing_bounded n (Ty.mk s4.2.1 s4.2.2.1 s4.2.2.2)).bind fun (x5 : Ty × Int) => some (x5.1, x5.2, s2.2.2))))))) (fun r => some r))) := rfl
theorem checkE {env : Env} (hv : validE env = true) : ∀ t : Tm, CheckE env t := Tm.ind fun op nm m ty ks ih d sc path hw hs hp => by
 obtain ⟨hnode, hd, hks, hkw⟩ := hw.node
 obtain ⟨hop, h20k, h29k, hlen, hbk⟩ := node_kids hnode
 refine Ev.succ ?_
 show Ev (fun n => typing_checker_of_body n (fun p0 p1 p2 p3 p4 => typing_checker_of n p0 p1 p2 p3 p4) (fun p0 p1 p2 p3 p4 p5 => typing_checker_child n p0 p1 p2 p3 p4 p5) (nameMap env) (carMap env) path (.mk op nm m ty ks) sc) _
 simp only [bodyC_eq]
 have hloop := loopG ks (fun n k i (s : CS) => typing_checker_of_L0 n (fun p0 p1 p2 p3 p4 => typing_checker_of n p0 p1 p2 p3 p4) (fun p0 p1 p2 p3 p4 p5 => typing_checker_child n p0 p1 p2 p3 p4 p5) (nameMap env) (carMap env) (.mk op nm m ty ks) k (s.1, s.2.1, i, s.2.2))
  (fun n i _ s => stepC env n (.mk op nm m ty ks) i s) (stC env op nm) (fun s => s) (fun _ suf s => GoodS s.1 ∧ s.2.1.length + suf.length ≤ 2000 ∧ s.2.2 = path)
  (fun n k s => by
   show cond (decide ((ks.length : Int) < (ks.length : Int))) _ _ = _
   rw [decide_eq_false (by omega)]
   rfl)
  (fun n k i x s hx hi => by
   show cond (decide (i < (ks.length : Int))) _ _ = _
   rw [hi]
   rfl)
  (fun i x suf s hx hI hidx => by
   obtain ⟨h1, h2, h3⟩ := hI
   simp only [List.length_cons] at h2
   have hch := child_ev (t := .mk op nm m ty ks) (i := i) hidx (ih x hx) (hkw x hx) h1 (path := s.2.2) (by rw [h3]; exact hp) hd
   refine ⟨?_, fun s' hs' => ?_⟩
   ·refine Ev.bind hch ?_
    unfold stC
    cases ht : tyOf env s.1 x with
    | er e p =>
     have he := tyOf_er x s.1 e p ht
     have e0 : (e != 0) = true := by simpa using he
     simp only [e0, cond_true]
     exact Ev.ret _
    | ok u =>
     have htop := tyOf_top hv h1 ht
     simp only [show ((0 : Int) != 0) = false from rfl, cond_false]
     rw [app_eq (by simp; omega) (by omega)]
     simp only [Option.bind_some, typing_binder_eq, Tm.op, Tm.name]
     refine Ev.bind (a := (i == 0 && bindB op)) ?_ ?_
     ·cases i == 0
      ·exact Ev.ret _
      ·exact Ev.ret _
     ·unfold bindS
      cases (i == 0 && bindB op) with
      | false => exact Ev.ret _
      | true =>
       simp only [cond_true, elementOf_eq _ htop, Option.bind_some]
       cases setO u with
       | none => exact Ev.ret _
       | some e => exact Ev.ret _
   ·unfold stC at hs'
    cases ht : tyOf env s.1 x with
    | er e p => rw [ht] at hs'; cases hs'
    | ok u =>
     rw [ht] at hs'
     simp only at hs'
     cases hb : bindS (i == 0 && bindB op) nm u s.1 with
     | none => rw [hb] at hs'; cases hs'
     | some sc' =>
      rw [hb] at hs'
      cases hs'
      refine ⟨bindS_good (tyOf_top hv h1 ht) h1 hb, ?_, h3⟩
      simp only [List.length_append, List.length_singleton]
      omega) (s0 := (sc, [], path)) ⟨hs, by simp; omega, rfl⟩
 have hrun := stC_run env op nm ks 0 sc [] path (Int.le_refl _)
 simp only [show ((0 : Int) == 0) = true from rfl, Bool.true_and, List.nil_append] at hrun
 simp only [tyOf]
 cases h20 : (op == 20) with
 | true =>
  have e : op = 20 := by simpa using h20
  have hk := h20k e
  subst hk
  refine Ev.bind hloop ?_
  simp only [runI, LR.el, Tm.op, Tm.name, h20, cond_true]
  refine Ev.bind (scope_lookup_ev sc nm) ?_
  unfold lookS
  cases sc.find? (fun d => d.name == nm) with
  | some d => exact Ev.ret _
  | none =>
   simp only [scP, cond_false, cond_true, Tm.name, find_nameMap hv]
   cases hl : look env nm with
   | none => simp only [resC, List.append_nil]; exact Ev.ret _
   | some t => obtain ⟨a, b, c⟩ := t; exact Ev.ret _
 | false =>
  simp only [cond_false]
  cases h29 : (op == 29) with
  | true =>
   have e : op = 29 := by simpa using h29
   obtain ⟨hk, hvt, _⟩ := h29k e
   subst hk
   refine Ev.bind hloop ?_
   simp only [Tm.op, h20, h29, cond_false, cond_true, Tm.ty]
   refine Ev.bind (known_ev hv hvt _ _) ?_
   cases knows env ty with
   | false => simp only [Bool.not_false, Bool.and_true, cond_true, resC, List.append_nil]; exact Ev.ret _
   | true =>
    simp only [Bool.not_true, Bool.and_false, cond_false, tyKs, finT]
    refine Ev.bind (bounded_ev (tySet ty)) ?_
    cases validT (tySet ty) with
    | false => simp only [cond_false, resC, List.append_nil]; exact Ev.ret _
    | true => exact Ev.ret _
  | false =>
   simp only [Bool.false_and, cond_false]
   cases hk : tyKs env sc (bindB op) nm 0 ks with
   | er e p =>
    rw [hk] at hrun
    simp only at hrun
    rw [hrun] at hloop
    exact Ev.bind hloop (Ev.ret _)
   | ok l =>
    rw [hk] at hrun
    obtain ⟨sc', hrun⟩ := hrun
    rw [hrun] at hloop
    refine Ev.bind hloop ?_
    simp only [LR.el, Tm.op, h20, h29, cond_false]
    obtain ⟨k1, k2, k3⟩ := tyKs_ok hv ks sc (bindB op) nm 0 l hs hk
    obtain ⟨r, hr1, hr2⟩ := chain_row hop.1 hop.2 (by simpa using h20) (by simpa using h29) k2 (hlen l k1) (fun hb => k3 hb (by obtain ⟨x, y, e⟩ := hbk hb; rw [e]; simp))
    refine Ev.bind hr1 ?_
    cases ho : rowO op l with
    | none =>
     rw [ho] at hr2
     simp only at hr2
     simp only [hr2, Bool.not_false, cond_true, finT, resC, List.append_nil]
     exact Ev.ret _
    | some t =>
     rw [ho] at hr2
     simp only at hr2
     subst hr2
     simp only [Bool.not_true, cond_false, ty_eta, finT]
     refine Ev.bind (bounded_ev t) ?_
     cases validT t with
     | false => simp only [cond_false, resC, List.append_nil]; exact Ev.ret _
     | true => exact Ev.ret _
end Abs
end Go.Proofs.YtiiaccpcoclklaaGreat

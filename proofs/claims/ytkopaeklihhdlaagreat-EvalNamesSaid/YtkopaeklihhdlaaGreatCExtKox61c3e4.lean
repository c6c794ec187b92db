/-
  The contracts of slices.Clone and slices.Clip at carriers, declarations, types, strings and ints by plain functions. Conditions: none.
-/
import Derived.Test.YtkopaeklihhdlaaGreatCExtJoxf4ba54
import Derived.Test.YtkopaeklihhdlaaGreatCClnox96bdee
set_option linter.unusedSimpArgs false
set_option linter.unusedVariables false
namespace Go.Proofs.YtkopaeklihhdlaaGreat
namespace Abs
open Go Go.Proofs
theorem adg : aU Tryz.prog 109 = true := by kernel_rfl
theorem ad8 : aU Tryz.prog 163 = true := by kernel_rfl
theorem acC : aU Tryz.prog 164 = true := by kernel_rfl
theorem adP : aU Tryz.prog 165 = true := by kernel_rfl
theorem acT : aU Tryz.prog 166 = true := by kernel_rfl
theorem adU : aU Tryz.prog 167 = true := by kernel_rfl
theorem adt : aU Tryz.prog 213 = true := by kernel_rfl
theorem adK : aU Tryz.prog 214 = true := by kernel_rfl
set_option maxRecDepth 100000 in
theorem zX (b8 : Nat) (p0 r : List Carrier) (h : app b8 ([] : List Carrier) p0 = some r) (hb8 : b8 = 40) : au Tryz.prog 164 [.slice (List.map ah p0) .shared] [] (.psl 0 2 p0.length) [.arr 2 (List.map ah p0)] := by
 subst hb8
 refine aB true Tryz.func164 rfl (by rw [Tryz.ntmps164]; exact Nat.le_of_ble_eq_true rfl) fun Q hQ t ht => ?_
 conv at ht => whnf
 subst ht
 have hr : r = p0 := by unfold app at h; split at h <;> simp at h; exact h.symm
 subst hr
 refine AW.dL fun K1 hK1 => ?_
 refine AW.region aK dQ 0 ?_
 conv => whnf
 refine hK1 _ _ ?_
 refine AW.dL fun K2 hK2 => ?_
 refine AW.dL fun K3 hK3 => ?_
 refine AW.uK (x := 0) (y := 3) (d := 4) (T := 22) (e := 71) (es := List.map ah r) (tag := .shared) rfl rfl rfl rfl rfl rfl (by kernel_rfl) rfl (Nat.le_of_ble_eq_true rfl) fun b hb => ?_
 conv => whnf
 refine hK3 _ _ ?_
 refine AW.cond (b := b) rfl (fun e1 => ?_) (fun e1 => ?_)
 ·have hp : r = [] := by simpa using hb e1
  subst hp
  refine AW.dL fun K4 hK4 => ?_
  refine AW.region aK dQ 0 ?_
  conv => whnf
  refine hK4 _ _ ?_
  refine AW.ret ?_
  conv => whnf
  refine hQ _ _ _ (dZ (u2 (.psl 0 2 (List.length ([] : List Carrier)) :: (u4 (.unk :: [])))) [.arr 2 (List.map ah ([] : List Carrier))] (wk [none] (.u2 (.cons (.nilP _ _) (.u4 (.u .nil)))) (.w rfl .nil) rfl) (bG aK [0] rfl (.cons (congrArg (AObj.arr _) (aA _ _)) .nil) ?_))
  conv => whnf
  try rfl
 ·refine AW.skip ?_
  conv => whnf
  refine hK2 _ _ ?_
  refine AW.dL fun K4 hK4 => ?_
  refine AW.CO aK dQ 2 ?_
  conv => whnf
  refine xW (l := ([] : List Carrier)) (l' := ([] : List Carrier)) (ys := r) (f := ah) h (aP _) MU ?_
  conv => whnf
  refine hK4 _ _ ?_
  refine AW.ret ?_
  conv => whnf
  refine hQ _ _ _ (.inl (bG aK [1] rfl (.cons (congrArg (AObj.arr _) (aA _ _)) .nil) ?_))
  conv => whnf
  try rfl
theorem A8 (n : Nat) (p0 : List Carrier) (r : List Carrier) (h : qF n p0 = some r) : au Tryz.prog 164 [.slice (List.map ah p0) .shared] [] (.psl 0 2 (List.length p0)) [.arr 2 (List.map ah p0)] := zX 40 p0 r h rfl
theorem Ql (ad : Option Addr) (len cap : Nat) (hc : len ≤ cap) (hl : len ≤ 140737488355328) (W : World) : Calls Tryz.prog 163 #[.slice ad len cap] W fun e W' => e = .returned (.slice ad len len) ∧ W' = W := by
 go_enter Tryz.func163, Tryz.ntmps163
 go_wp2
 go_ret
 exact ⟨rfl, rfl⟩
theorem BX (n : Nat) (p0 : List Carrier) (r : List Carrier) (h : ru n p0 = some r) : au Tryz.prog 163 [.psl 0 2 (List.length p0)] [.arr 2 (List.map ah p0)] (.psl 0 2 (List.length p0)) [.arr 2 (List.map ah p0)] := by
 intro κ aN w vs hen hvl hr
 have h0 := hr 0 (by simp)
 match vs, hvl with
 | [v], _ =>
 simp only [List.getD, List.getElem?_cons_zero, Option.getD_some] at h0
 cases h0 with
 | @psl _ _ _ cap a g1 g2 g3 =>
  refine (Ql a _ cap g1 g2 w).mono ?_
  rintro e w' ⟨rfl, rfl⟩
  refine ⟨_, κ, rfl, Leave.same hen (Go.RowKit.Below.refl _ _), .psl (Nat.le_refl _) g2 ?_⟩
  obtain ⟨_, ⟨ha, hc⟩ | ⟨b, c, el, hb, ha, hh, hs⟩⟩ := g3
  ·exact ⟨rfl, .inl ⟨ha, by omega⟩⟩
  ·exact ⟨rfl, .inr ⟨b, c, el, hb, ha, hh, Nat.le_trans (Nat.mul_le_mul_right 2 g1) hs⟩⟩
set_option maxRecDepth 100000 in
theorem Dr (b8 : Nat) (p0 r : List Decl) (h : app b8 ([] : List Decl) p0 = some r) (hb8 : b8 = 64) : au Tryz.prog 166 [.slice (List.map ak p0) .shared] [] (.psl 0 4 p0.length) [.arr 4 (List.map ak p0)] := by
 subst hb8
 refine aB true Tryz.func166 rfl (by rw [Tryz.ntmps166]; exact Nat.le_of_ble_eq_true rfl) fun Q hQ t ht => ?_
 conv at ht => whnf
 subst ht
 have hr : r = p0 := by unfold app at h; split at h <;> simp at h; exact h.symm
 subst hr
 refine AW.dL fun K1 hK1 => ?_
 refine AW.region aK dQ 0 ?_
 conv => whnf
 refine hK1 _ _ ?_
 refine AW.dL fun K2 hK2 => ?_
 refine AW.dL fun K3 hK3 => ?_
 refine AW.uK (x := 0) (y := 3) (d := 4) (T := 23) (e := 74) (es := List.map ak r) (tag := .shared) rfl rfl rfl rfl rfl rfl (by kernel_rfl) rfl (Nat.le_of_ble_eq_true rfl) fun b hb => ?_
 conv => whnf
 refine hK3 _ _ ?_
 refine AW.cond (b := b) rfl (fun e1 => ?_) (fun e1 => ?_)
 ·have hp : r = [] := by simpa using hb e1
  subst hp
  refine AW.dL fun K4 hK4 => ?_
  refine AW.region aK dQ 0 ?_
  conv => whnf
  refine hK4 _ _ ?_
  refine AW.ret ?_
  conv => whnf
  refine hQ _ _ _ (dZ (u2 (.psl 0 4 (List.length ([] : List Decl)) :: (u4 (.unk :: [])))) [.arr 4 (List.map ak ([] : List Decl))] (wk [none] (.u2 (.cons (.nilP _ _) (.u4 (.u .nil)))) (.w rfl .nil) rfl) (bG aK [0] rfl (.cons (congrArg (AObj.arr _) (aF _ _)) .nil) ?_))
  conv => whnf
  try rfl
 ·refine AW.skip ?_
  conv => whnf
  refine hK2 _ _ ?_
  refine AW.dL fun K4 hK4 => ?_
  refine AW.CO aK dQ 2 ?_
  conv => whnf
  refine xW (l := ([] : List Decl)) (l' := ([] : List Decl)) (ys := r) (f := ak) h (aP _) XR ?_
  conv => whnf
  refine hK4 _ _ ?_
  refine AW.ret ?_
  conv => whnf
  refine hQ _ _ _ (.inl (bG aK [1] rfl (.cons (congrArg (AObj.arr _) (aF _ _)) .nil) ?_))
  conv => whnf
  try rfl
theorem DZ (n : Nat) (p0 : List Decl) (r : List Decl) (h : uo n p0 = some r) : au Tryz.prog 166 [.slice (List.map ak p0) .shared] [] (.psl 0 4 (List.length p0)) [.arr 4 (List.map ak p0)] := Dr 64 p0 r h rfl
theorem Rj (ad : Option Addr) (len cap : Nat) (hc : len ≤ cap) (hl : len ≤ 140737488355328) (W : World) : Calls Tryz.prog 165 #[.slice ad len cap] W fun e W' => e = .returned (.slice ad len len) ∧ W' = W := by
 go_enter Tryz.func165, Tryz.ntmps165
 go_wp2
 go_ret
 exact ⟨rfl, rfl⟩
theorem Fx (n : Nat) (p0 : List Decl) (r : List Decl) (h : uY n p0 = some r) : au Tryz.prog 165 [.psl 0 4 (List.length p0)] [.arr 4 (List.map ak p0)] (.psl 0 4 (List.length p0)) [.arr 4 (List.map ak p0)] := by
 intro κ aN w vs hen hvl hr
 have h0 := hr 0 (by simp)
 match vs, hvl with
 | [v], _ =>
 simp only [List.getD, List.getElem?_cons_zero, Option.getD_some] at h0
 cases h0 with
 | @psl _ _ _ cap a g1 g2 g3 =>
  refine (Rj a _ cap g1 g2 w).mono ?_
  rintro e w' ⟨rfl, rfl⟩
  refine ⟨_, κ, rfl, Leave.same hen (Go.RowKit.Below.refl _ _), .psl (Nat.le_refl _) g2 ?_⟩
  obtain ⟨_, ⟨ha, hc⟩ | ⟨b, c, el, hb, ha, hh, hs⟩⟩ := g3
  ·exact ⟨rfl, .inl ⟨ha, by omega⟩⟩
  ·exact ⟨rfl, .inr ⟨b, c, el, hb, ha, hh, Nat.le_trans (Nat.mul_le_mul_right 4 g1) hs⟩⟩
set_option maxRecDepth 100000 in
theorem Dv (b8 : Nat) (p0 r : List Ty) (h : app b8 ([] : List Ty) p0 = some r) (hb8 : b8 = 48) : au Tryz.prog 214 [.slice (List.map aC p0) .shared] [] (.psl 0 3 p0.length) [.arr 3 (List.map aC p0)] := by
 subst hb8
 refine aB true Tryz.func214 rfl (by rw [Tryz.ntmps214]; exact Nat.le_of_ble_eq_true rfl) fun Q hQ t ht => ?_
 conv at ht => whnf
 subst ht
 have hr : r = p0 := by unfold app at h; split at h <;> simp at h; exact h.symm
 subst hr
 refine AW.dL fun K1 hK1 => ?_
 refine AW.region aK dQ 0 ?_
 conv => whnf
 refine hK1 _ _ ?_
 refine AW.dL fun K2 hK2 => ?_
 refine AW.dL fun K3 hK3 => ?_
 refine AW.uK (x := 0) (y := 3) (d := 4) (T := 32) (e := 34) (es := List.map aC r) (tag := .shared) rfl rfl rfl rfl rfl rfl (by kernel_rfl) rfl (Nat.le_of_ble_eq_true rfl) fun b hb => ?_
 conv => whnf
 refine hK3 _ _ ?_
 refine AW.cond (b := b) rfl (fun e1 => ?_) (fun e1 => ?_)
 ·have hp : r = [] := by simpa using hb e1
  subst hp
  refine AW.dL fun K4 hK4 => ?_
  refine AW.region aK dQ 0 ?_
  conv => whnf
  refine hK4 _ _ ?_
  refine AW.ret ?_
  conv => whnf
  refine hQ _ _ _ (dZ (u2 (.psl 0 3 (List.length ([] : List Ty)) :: (u4 (.unk :: [])))) [.arr 3 (List.map aC ([] : List Ty))] (wk [none] (.u2 (.cons (.nilP _ _) (.u4 (.u .nil)))) (.w rfl .nil) rfl) (bG aK [0] rfl (.cons (congrArg (AObj.arr _) (aZ _ _)) .nil) ?_))
  conv => whnf
  try rfl
 ·refine AW.skip ?_
  conv => whnf
  refine hK2 _ _ ?_
  refine AW.dL fun K4 hK4 => ?_
  refine AW.CO aK dQ 2 ?_
  conv => whnf
  refine xW (l := ([] : List Ty)) (l' := ([] : List Ty)) (ys := r) (f := aC) h (aP _) ab8 ?_
  conv => whnf
  refine hK4 _ _ ?_
  refine AW.ret ?_
  conv => whnf
  refine hQ _ _ _ (.inl (bG aK [1] rfl (.cons (congrArg (AObj.arr _) (aZ _ _)) .nil) ?_))
  conv => whnf
  try rfl
theorem Ee (n : Nat) (p0 : List Ty) (r : List Ty) (h : uE n p0 = some r) : au Tryz.prog 214 [.slice (List.map aC p0) .shared] [] (.psl 0 3 (List.length p0)) [.arr 3 (List.map aC p0)] := Dv 48 p0 r h rfl
theorem QU (ad : Option Addr) (len cap : Nat) (hc : len ≤ cap) (hl : len ≤ 140737488355328) (W : World) : Calls Tryz.prog 213 #[.slice ad len cap] W fun e W' => e = .returned (.slice ad len len) ∧ W' = W := by
 go_enter Tryz.func213, Tryz.ntmps213
 go_wp2
 go_ret
 exact ⟨rfl, rfl⟩
theorem Fa (n : Nat) (p0 : List Ty) (r : List Ty) (h : vg n p0 = some r) : au Tryz.prog 213 [.psl 0 3 (List.length p0)] [.arr 3 (List.map aC p0)] (.psl 0 3 (List.length p0)) [.arr 3 (List.map aC p0)] := by
 intro κ aN w vs hen hvl hr
 have h0 := hr 0 (by simp)
 match vs, hvl with
 | [v], _ =>
 simp only [List.getD, List.getElem?_cons_zero, Option.getD_some] at h0
 cases h0 with
 | @psl _ _ _ cap a g1 g2 g3 =>
  refine (QU a _ cap g1 g2 w).mono ?_
  rintro e w' ⟨rfl, rfl⟩
  refine ⟨_, κ, rfl, Leave.same hen (Go.RowKit.Below.refl _ _), .psl (Nat.le_refl _) g2 ?_⟩
  obtain ⟨_, ⟨ha, hc⟩ | ⟨b, c, el, hb, ha, hh, hs⟩⟩ := g3
  ·exact ⟨rfl, .inl ⟨ha, by omega⟩⟩
  ·exact ⟨rfl, .inr ⟨b, c, el, hb, ha, hh, Nat.le_trans (Nat.mul_le_mul_right 3 g1) hs⟩⟩
theorem QB (ad : Option Addr) (len cap : Nat) (hc : len ≤ cap) (hl : len ≤ 140737488355328) (W : World) : Calls Tryz.prog 109 #[.slice ad len cap] W fun e W' => e = .returned (.slice ad len len) ∧ W' = W := by
 go_enter Tryz.func109, Tryz.ntmps109
 go_wp2
 go_ret
 exact ⟨rfl, rfl⟩
theorem VO (H : List AObj) (es : List (List AV)) (tag : Tag) (hl : es.length ≤ 140737488355328) : au Tryz.prog 109 [.slice es tag] H (.slice es .shared) H := by
 intro κ aN w vs hen hvl hr
 have h0 := hr 0 (by simp)
 match vs, hvl with
 | [v], _ =>
 simp only [List.getD, List.getElem?_cons_zero, Option.getD_some] at h0
 cases h0 with
 | @slice _ _ a cap b off sz u h1 h2 h3 h3' h4 h5 h6 ht =>
  refine (QB a es.length cap h3 hl w).mono ?_
  rintro e w' ⟨rfl, rfl⟩
  refine ⟨_, κ, rfl, Leave.same hen (Go.RowKit.Below.refl _ _), ?_⟩
  exact .slice b off sz u h1 h2 (Nat.le_refl _) h3' h4 h5 h6 trivial
theorem DF (n : Nat) (p0 : List Int) (r : List Int) (h : oU n p0 = some r) : au Tryz.prog 109 [.slice (List.map encI p0) .shared] [] (.slice (List.map encI r) .shared) [] := by
 unfold oU at h
 cases hb : Nat.ble p0.length 140737488355328 with
 | false => rw [hb] at h; cases h
 | true =>
  rw [hb] at h
  simp only [cond_true, Option.some.injEq] at h
  subst h
  exact VO [] _ .shared (by rw [List.length_map]; exact Nat.le_of_ble_eq_true hb)
theorem QJ (ad : Option Addr) (len cap : Nat) (hc : len ≤ cap) (hl : len ≤ 140737488355328) (W : World) : Calls Tryz.prog 167 #[.slice ad len cap] W fun e W' => e = .returned (.slice ad len len) ∧ W' = W := by
 go_enter Tryz.func167, Tryz.ntmps167
 go_wp2
 go_ret
 exact ⟨rfl, rfl⟩
theorem Wq (H : List AObj) (es : List (List AV)) (tag : Tag) (hl : es.length ≤ 140737488355328) : au Tryz.prog 167 [.slice es tag] H (.slice es .shared) H := by
 intro κ aN w vs hen hvl hr
 have h0 := hr 0 (by simp)
 match vs, hvl with
 | [v], _ =>
 simp only [List.getD, List.getElem?_cons_zero, Option.getD_some] at h0
 cases h0 with
 | @slice _ _ a cap b off sz u h1 h2 h3 h3' h4 h5 h6 ht =>
  refine (QJ a es.length cap h3 hl w).mono ?_
  rintro e w' ⟨rfl, rfl⟩
  refine ⟨_, κ, rfl, Leave.same hen (Go.RowKit.Below.refl _ _), ?_⟩
  exact .slice b off sz u h1 h2 (Nat.le_refl _) h3' h4 h5 h6 trivial
theorem AZ (n : Nat) (p0 : List Str) (r : List Str) (h : ko n p0 = some r) : au Tryz.prog 167 [.slice (List.map encS p0) .shared] [] (.slice (List.map encS r) .shared) [] := by
 unfold ko at h
 cases hb : Nat.ble p0.length 140737488355328 with
 | false => rw [hb] at h; cases h
 | true =>
  rw [hb] at h
  simp only [cond_true, Option.some.injEq] at h
  subst h
  exact Wq [] _ .shared (by rw [List.length_map]; exact Nat.le_of_ble_eq_true hb)
end Abs
end Go.Proofs.YtkopaeklihhdlaaGreat

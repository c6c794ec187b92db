/-
  The contracts of slices.Clone and slices.Clip at carriers, declarations, types, strings and ints by plain functions. Conditions: none.
-/
import Derived.Test.YtkopaeklihhdlaaGreatCExtMoxcccb3b
import Derived.Test.YtkopaeklihhdlaaGreatCClnox763f78
set_option linter.unusedSimpArgs false
set_option linter.unusedVariables false
namespace Go.Proofs.YtkopaeklihhdlaaGreat
namespace Abs
open Go Go.Proofs
theorem aep : aY Tryz.prog 109 = true := by kernel_rfl
theorem aeE : aY Tryz.prog 163 = true := by kernel_rfl
theorem aeO : aY Tryz.prog 164 = true := by kernel_rfl
theorem aeB : aY Tryz.prog 165 = true := by kernel_rfl
theorem afs : aY Tryz.prog 166 = true := by kernel_rfl
theorem aer : aY Tryz.prog 167 = true := by kernel_rfl
theorem afA : aY Tryz.prog 213 = true := by kernel_rfl
theorem aeP : aY Tryz.prog 214 = true := by kernel_rfl
set_option maxRecDepth 100000 in
theorem BD (b8 : Nat) (p0 r : List Carrier) (h : app b8 ([] : List Carrier) p0 = some r) (hb8 : b8 = 40) : aA Tryz.prog 164 [.slice (List.map aj p0) .shared] [] (.psl 0 2 p0.length) [.arr 2 (List.map aj p0)] := by
 subst hb8
 refine aC true Tryz.func164 rfl (by rw [Tryz.ntmps164]; exact Nat.le_of_ble_eq_true rfl) fun Q hQ t ht => ?_
 conv at ht => whnf
 subst ht
 have hr : r = p0 := by unfold app at h; split at h <;> simp at h; exact h.symm
 subst hr
 refine AW.dP fun K1 hK1 => ?_
 refine AW.region aJ dN 0 ?_
 conv => whnf
 refine hK1 _ _ ?_
 refine AW.dP fun K2 hK2 => ?_
 refine AW.dP fun K3 hK3 => ?_
 refine AW.vJ (x := 0) (y := 3) (d := 4) (T := 22) (e := 71) (es := List.map aj r) (tag := .shared) rfl rfl rfl rfl rfl rfl (by kernel_rfl) rfl (Nat.le_of_ble_eq_true rfl) fun b hb => ?_
 conv => whnf
 refine hK3 _ _ ?_
 refine AW.cond (b := b) rfl (fun e1 => ?_) (fun e1 => ?_)
 ·have hp : r = [] := by simpa using hb e1
  subst hp
  refine AW.dP fun K4 hK4 => ?_
  refine AW.region aJ dN 0 ?_
  conv => whnf
  refine hK4 _ _ ?_
  refine AW.ret ?_
  conv => whnf
  refine hQ _ _ _ (d9 (u2 (.psl 0 2 (List.length ([] : List Carrier)) :: (u4 (.unk :: [])))) [.arr 2 (List.map aj ([] : List Carrier))] (wk [none] (.u2 (.cons (.nilP _ _) (.u4 (.u .nil)))) (.w rfl .nil) rfl) (bH aJ [0] rfl (.cons (congrArg (AObj.arr _) (au _ _)) .nil) ?_))
  conv => whnf
  try rfl
 ·refine AW.skip ?_
  conv => whnf
  refine hK2 _ _ ?_
  refine AW.dP fun K4 hK4 => ?_
  refine AW.D7 aJ dN 2 ?_
  conv => whnf
  refine yM (l := ([] : List Carrier)) (l' := ([] : List Carrier)) (ys := r) (f := aj) h (aN _) MO ?_
  conv => whnf
  refine hK4 _ _ ?_
  refine AW.ret ?_
  conv => whnf
  refine hQ _ _ _ (.inl (bH aJ [1] rfl (.cons (congrArg (AObj.arr _) (au _ _)) .nil) ?_))
  conv => whnf
  try rfl
theorem Cc (n : Nat) (p0 : List Carrier) (r : List Carrier) (h : rF n p0 = some r) : aA Tryz.prog 164 [.slice (List.map aj p0) .shared] [] (.psl 0 2 (List.length p0)) [.arr 2 (List.map aj p0)] := BD 40 p0 r h rfl
theorem Tv (ad : Option Addr) (len cap : Nat) (hc : len ≤ cap) (hl : len ≤ 140737488355328) (W : World) : Calls Tryz.prog 163 #[.slice ad len cap] W fun e W' => e = .returned (.slice ad len len) ∧ W' = W := by
 go_enter Tryz.func163, Tryz.ntmps163
 go_wp2
 go_ret
 exact ⟨rfl, rfl⟩
theorem C8 (n : Nat) (p0 : List Carrier) (r : List Carrier) (h : sM n p0 = some r) : aA Tryz.prog 163 [.psl 0 2 (List.length p0)] [.arr 2 (List.map aj p0)] (.psl 0 2 (List.length p0)) [.arr 2 (List.map aj p0)] := by
 intro κ aO w vs hen hvl hr
 have h0 := hr 0 (by simp)
 match vs, hvl with
 | [v], _ =>
 simp only [List.getD, List.getElem?_cons_zero, Option.getD_some] at h0
 cases h0 with
 | @psl _ _ _ cap a g1 g2 g3 =>
  refine (Tv a _ cap g1 g2 w).mono ?_
  rintro e w' ⟨rfl, rfl⟩
  refine ⟨_, κ, rfl, Leave.same hen (Go.RowKit.Below.refl _ _), .psl (Nat.le_refl _) g2 ?_⟩
  obtain ⟨_, ⟨ha, hc⟩ | ⟨b, c, el, hb, ha, hh, hs⟩⟩ := g3
  ·exact ⟨rfl, .inl ⟨ha, by omega⟩⟩
  ·exact ⟨rfl, .inr ⟨b, c, el, hb, ha, hh, Nat.le_trans (Nat.mul_le_mul_right 2 g1) hs⟩⟩
set_option maxRecDepth 100000 in
theorem EF (b8 : Nat) (p0 r : List Decl) (h : app b8 ([] : List Decl) p0 = some r) (hb8 : b8 = 64) : aA Tryz.prog 166 [.slice (List.map ak p0) .shared] [] (.psl 0 4 p0.length) [.arr 4 (List.map ak p0)] := by
 subst hb8
 refine aC true Tryz.func166 rfl (by rw [Tryz.ntmps166]; exact Nat.le_of_ble_eq_true rfl) fun Q hQ t ht => ?_
 conv at ht => whnf
 subst ht
 have hr : r = p0 := by unfold app at h; split at h <;> simp at h; exact h.symm
 subst hr
 refine AW.dP fun K1 hK1 => ?_
 refine AW.region aJ dN 0 ?_
 conv => whnf
 refine hK1 _ _ ?_
 refine AW.dP fun K2 hK2 => ?_
 refine AW.dP fun K3 hK3 => ?_
 refine AW.vJ (x := 0) (y := 3) (d := 4) (T := 23) (e := 74) (es := List.map ak r) (tag := .shared) rfl rfl rfl rfl rfl rfl (by kernel_rfl) rfl (Nat.le_of_ble_eq_true rfl) fun b hb => ?_
 conv => whnf
 refine hK3 _ _ ?_
 refine AW.cond (b := b) rfl (fun e1 => ?_) (fun e1 => ?_)
 ·have hp : r = [] := by simpa using hb e1
  subst hp
  refine AW.dP fun K4 hK4 => ?_
  refine AW.region aJ dN 0 ?_
  conv => whnf
  refine hK4 _ _ ?_
  refine AW.ret ?_
  conv => whnf
  refine hQ _ _ _ (d9 (u2 (.psl 0 4 (List.length ([] : List Decl)) :: (u4 (.unk :: [])))) [.arr 4 (List.map ak ([] : List Decl))] (wk [none] (.u2 (.cons (.nilP _ _) (.u4 (.u .nil)))) (.w rfl .nil) rfl) (bH aJ [0] rfl (.cons (congrArg (AObj.arr _) (aF _ _)) .nil) ?_))
  conv => whnf
  try rfl
 ·refine AW.skip ?_
  conv => whnf
  refine hK2 _ _ ?_
  refine AW.dP fun K4 hK4 => ?_
  refine AW.D7 aJ dN 2 ?_
  conv => whnf
  refine yM (l := ([] : List Decl)) (l' := ([] : List Decl)) (ys := r) (f := ak) h (aN _) Y1 ?_
  conv => whnf
  refine hK4 _ _ ?_
  refine AW.ret ?_
  conv => whnf
  refine hQ _ _ _ (.inl (bH aJ [1] rfl (.cons (congrArg (AObj.arr _) (aF _ _)) .nil) ?_))
  conv => whnf
  try rfl
theorem FB (n : Nat) (p0 : List Decl) (r : List Decl) (h : uY n p0 = some r) : aA Tryz.prog 166 [.slice (List.map ak p0) .shared] [] (.psl 0 4 (List.length p0)) [.arr 4 (List.map ak p0)] := EF 64 p0 r h rfl
theorem RD (ad : Option Addr) (len cap : Nat) (hc : len ≤ cap) (hl : len ≤ 140737488355328) (W : World) : Calls Tryz.prog 165 #[.slice ad len cap] W fun e W' => e = .returned (.slice ad len len) ∧ W' = W := by
 go_enter Tryz.func165, Tryz.ntmps165
 go_wp2
 go_ret
 exact ⟨rfl, rfl⟩
theorem Gu (n : Nat) (p0 : List Decl) (r : List Decl) (h : wB n p0 = some r) : aA Tryz.prog 165 [.psl 0 4 (List.length p0)] [.arr 4 (List.map ak p0)] (.psl 0 4 (List.length p0)) [.arr 4 (List.map ak p0)] := by
 intro κ aO w vs hen hvl hr
 have h0 := hr 0 (by simp)
 match vs, hvl with
 | [v], _ =>
 simp only [List.getD, List.getElem?_cons_zero, Option.getD_some] at h0
 cases h0 with
 | @psl _ _ _ cap a g1 g2 g3 =>
  refine (RD a _ cap g1 g2 w).mono ?_
  rintro e w' ⟨rfl, rfl⟩
  refine ⟨_, κ, rfl, Leave.same hen (Go.RowKit.Below.refl _ _), .psl (Nat.le_refl _) g2 ?_⟩
  obtain ⟨_, ⟨ha, hc⟩ | ⟨b, c, el, hb, ha, hh, hs⟩⟩ := g3
  ·exact ⟨rfl, .inl ⟨ha, by omega⟩⟩
  ·exact ⟨rfl, .inr ⟨b, c, el, hb, ha, hh, Nat.le_trans (Nat.mul_le_mul_right 4 g1) hs⟩⟩
set_option maxRecDepth 100000 in
theorem Es (b8 : Nat) (p0 r : List Ty) (h : app b8 ([] : List Ty) p0 = some r) (hb8 : b8 = 48) : aA Tryz.prog 214 [.slice (List.map aH p0) .shared] [] (.psl 0 3 p0.length) [.arr 3 (List.map aH p0)] := by
 subst hb8
 refine aC true Tryz.func214 rfl (by rw [Tryz.ntmps214]; exact Nat.le_of_ble_eq_true rfl) fun Q hQ t ht => ?_
 conv at ht => whnf
 subst ht
 have hr : r = p0 := by unfold app at h; split at h <;> simp at h; exact h.symm
 subst hr
 refine AW.dP fun K1 hK1 => ?_
 refine AW.region aJ dN 0 ?_
 conv => whnf
 refine hK1 _ _ ?_
 refine AW.dP fun K2 hK2 => ?_
 refine AW.dP fun K3 hK3 => ?_
 refine AW.vJ (x := 0) (y := 3) (d := 4) (T := 32) (e := 34) (es := List.map aH r) (tag := .shared) rfl rfl rfl rfl rfl rfl (by kernel_rfl) rfl (Nat.le_of_ble_eq_true rfl) fun b hb => ?_
 conv => whnf
 refine hK3 _ _ ?_
 refine AW.cond (b := b) rfl (fun e1 => ?_) (fun e1 => ?_)
 ·have hp : r = [] := by simpa using hb e1
  subst hp
  refine AW.dP fun K4 hK4 => ?_
  refine AW.region aJ dN 0 ?_
  conv => whnf
  refine hK4 _ _ ?_
  refine AW.ret ?_
  conv => whnf
  refine hQ _ _ _ (d9 (u2 (.psl 0 3 (List.length ([] : List Ty)) :: (u4 (.unk :: [])))) [.arr 3 (List.map aH ([] : List Ty))] (wk [none] (.u2 (.cons (.nilP _ _) (.u4 (.u .nil)))) (.w rfl .nil) rfl) (bH aJ [0] rfl (.cons (congrArg (AObj.arr _) (bf _ _)) .nil) ?_))
  conv => whnf
  try rfl
 ·refine AW.skip ?_
  conv => whnf
  refine hK2 _ _ ?_
  refine AW.dP fun K4 hK4 => ?_
  refine AW.D7 aJ dN 2 ?_
  conv => whnf
  refine yM (l := ([] : List Ty)) (l' := ([] : List Ty)) (ys := r) (f := aH) h (aN _) ad9 ?_
  conv => whnf
  refine hK4 _ _ ?_
  refine AW.ret ?_
  conv => whnf
  refine hQ _ _ _ (.inl (bH aJ [1] rfl (.cons (congrArg (AObj.arr _) (bf _ _)) .nil) ?_))
  conv => whnf
  try rfl
theorem EH (n : Nat) (p0 : List Ty) (r : List Ty) (h : vv n p0 = some r) : aA Tryz.prog 214 [.slice (List.map aH p0) .shared] [] (.psl 0 3 (List.length p0)) [.arr 3 (List.map aH p0)] := Es 48 p0 r h rfl
theorem SF (ad : Option Addr) (len cap : Nat) (hc : len ≤ cap) (hl : len ≤ 140737488355328) (W : World) : Calls Tryz.prog 213 #[.slice ad len cap] W fun e W' => e = .returned (.slice ad len len) ∧ W' = W := by
 go_enter Tryz.func213, Tryz.ntmps213
 go_wp2
 go_ret
 exact ⟨rfl, rfl⟩
theorem Gl (n : Nat) (p0 : List Ty) (r : List Ty) (h : wu n p0 = some r) : aA Tryz.prog 213 [.psl 0 3 (List.length p0)] [.arr 3 (List.map aH p0)] (.psl 0 3 (List.length p0)) [.arr 3 (List.map aH p0)] := by
 intro κ aO w vs hen hvl hr
 have h0 := hr 0 (by simp)
 match vs, hvl with
 | [v], _ =>
 simp only [List.getD, List.getElem?_cons_zero, Option.getD_some] at h0
 cases h0 with
 | @psl _ _ _ cap a g1 g2 g3 =>
  refine (SF a _ cap g1 g2 w).mono ?_
  rintro e w' ⟨rfl, rfl⟩
  refine ⟨_, κ, rfl, Leave.same hen (Go.RowKit.Below.refl _ _), .psl (Nat.le_refl _) g2 ?_⟩
  obtain ⟨_, ⟨ha, hc⟩ | ⟨b, c, el, hb, ha, hh, hs⟩⟩ := g3
  ·exact ⟨rfl, .inl ⟨ha, by omega⟩⟩
  ·exact ⟨rfl, .inr ⟨b, c, el, hb, ha, hh, Nat.le_trans (Nat.mul_le_mul_right 3 g1) hs⟩⟩
theorem Rs (ad : Option Addr) (len cap : Nat) (hc : len ≤ cap) (hl : len ≤ 140737488355328) (W : World) : Calls Tryz.prog 109 #[.slice ad len cap] W fun e W' => e = .returned (.slice ad len len) ∧ W' = W := by
 go_enter Tryz.func109, Tryz.ntmps109
 go_wp2
 go_ret
 exact ⟨rfl, rfl⟩
theorem YM (H : List AObj) (es : List (List AV)) (tag : Tag) (hl : es.length ≤ 140737488355328) : aA Tryz.prog 109 [.slice es tag] H (.slice es .shared) H := by
 intro κ aO w vs hen hvl hr
 have h0 := hr 0 (by simp)
 match vs, hvl with
 | [v], _ =>
 simp only [List.getD, List.getElem?_cons_zero, Option.getD_some] at h0
 cases h0 with
 | @slice _ _ a cap b off sz u h1 h2 h3 h3' h4 h5 h6 ht =>
  refine (Rs a es.length cap h3 hl w).mono ?_
  rintro e w' ⟨rfl, rfl⟩
  refine ⟨_, κ, rfl, Leave.same hen (Go.RowKit.Below.refl _ _), ?_⟩
  exact .slice b off sz u h1 h2 (Nat.le_refl _) h3' h4 h5 h6 trivial
theorem EL (n : Nat) (p0 : List Int) (r : List Int) (h : p9 n p0 = some r) : aA Tryz.prog 109 [.slice (List.map encI p0) .shared] [] (.slice (List.map encI r) .shared) [] := by
 unfold p9 at h
 cases hb : Nat.ble p0.length 140737488355328 with
 | false => rw [hb] at h; cases h
 | true =>
  rw [hb] at h
  simp only [cond_true, Option.some.injEq] at h
  subst h
  exact YM [] _ .shared (by rw [List.length_map]; exact Nat.le_of_ble_eq_true hb)
theorem RU (ad : Option Addr) (len cap : Nat) (hc : len ≤ cap) (hl : len ≤ 140737488355328) (W : World) : Calls Tryz.prog 167 #[.slice ad len cap] W fun e W' => e = .returned (.slice ad len len) ∧ W' = W := by
 go_enter Tryz.func167, Tryz.ntmps167
 go_wp2
 go_ret
 exact ⟨rfl, rfl⟩
theorem Yl (H : List AObj) (es : List (List AV)) (tag : Tag) (hl : es.length ≤ 140737488355328) : aA Tryz.prog 167 [.slice es tag] H (.slice es .shared) H := by
 intro κ aO w vs hen hvl hr
 have h0 := hr 0 (by simp)
 match vs, hvl with
 | [v], _ =>
 simp only [List.getD, List.getElem?_cons_zero, Option.getD_some] at h0
 cases h0 with
 | @slice _ _ a cap b off sz u h1 h2 h3 h3' h4 h5 h6 ht =>
  refine (RU a es.length cap h3 hl w).mono ?_
  rintro e w' ⟨rfl, rfl⟩
  refine ⟨_, κ, rfl, Leave.same hen (Go.RowKit.Below.refl _ _), ?_⟩
  exact .slice b off sz u h1 h2 (Nat.le_refl _) h3' h4 h5 h6 trivial
theorem BZ (n : Nat) (p0 : List Str) (r : List Str) (h : kL n p0 = some r) : aA Tryz.prog 167 [.slice (List.map encS p0) .shared] [] (.slice (List.map encS r) .shared) [] := by
 unfold kL at h
 cases hb : Nat.ble p0.length 140737488355328 with
 | false => rw [hb] at h; cases h
 | true =>
  rw [hb] at h
  simp only [cond_true, Option.some.injEq] at h
  subst h
  exact Yl [] _ .shared (by rw [List.length_map]; exact Nat.le_of_ble_eq_true hb)
theorem Dn (n : Nat) (p0 : List Val) (r : List Val) (h : lD n p0 = some r) : aA Tryz.prog 70 [.slice (List.map ah p0) .shared] [] (.slice (List.map ah r) .shared) [] := by
 unfold lD at h
 cases hb : Nat.ble p0.length 140737488355328 with
 | false => rw [hb] at h; cases h
 | true =>
  rw [hb] at h
  simp only [cond_true, Option.some.injEq] at h
  subst h
  exact Nw _ .shared (by rw [List.length_map]; exact Nat.le_of_ble_eq_true hb) (.inl rfl)
end Abs
end Go.Proofs.YtkopaeklihhdlaaGreat

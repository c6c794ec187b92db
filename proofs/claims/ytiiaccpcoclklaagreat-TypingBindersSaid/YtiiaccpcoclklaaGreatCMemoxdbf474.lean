/-
  Calls whose contracts stand already, kept in a list, for the run by 'xcall'. Conditions: none; over any program. What the run of 'awake' takes for granted: slices.Sorted's contract; that the functions have bodies. Conditions: none.
-/
import Derived.Test.YtiiaccpcoclklaaGreatCData2x8e6344
set_option linter.unusedSimpArgs false
set_option linter.unusedVariables false
namespace Go.Proofs.YtiiaccpcoclklaaGreat
namespace Abs
open Go
def eqT : Tag → Tag → Bool
 | .shared, .shared => true
 | .nils, .nils => true
 | .tip l z, .tip l' z' => Nat.beq l l' && Nat.beq z z'
 | _, _ => false
def eqB : List UInt8 → List UInt8 → Bool
 | [], [] => true
 | a :: s, b :: t => Nat.beq a.toNat b.toNat && eqB s t
 | _, _ => false
mutual
def eqV : AV → AV → Bool
 | .unk, .unk => true
 | .int k n, .int k' n' => decide (k = k') && decide (n = n')
 | .bool b, .bool b' => b == b'
 | .str s, .str s' => eqB s s'
 | .nilp, .nilp => true
 | .ptr l o, .ptr l' o' => Nat.beq l l' && Nat.beq o o'
 | .slice es t, .slice es' t' => eqT t t' && eqLL es es'
 | .agg cs, .agg cs' => eqL cs cs'
 | .tup cs, .tup cs' => eqL cs cs'
 | .func f cs, .func f' cs' => Nat.beq f f' && eqL cs cs'
 | .mapr l, .mapr l' => Nat.beq l l'
 | .nilFunc, .nilFunc => true
 | _, _ => false
def eqL : List AV → List AV → Bool
 | [], [] => true
 | c :: cs, c' :: cs' => eqV c c' && eqL cs cs'
 | _, _ => false
def eqLL : List (List AV) → List (List AV) → Bool
 | [], [] => true
 | c :: cs, c' :: cs' => eqL c c' && eqLL cs cs'
 | _, _ => false
end
def eqO : AObj → AObj → Bool
 | .box cs, .box cs' => eqL cs cs'
 | .tip n, .tip n' => Nat.beq n n'
 | .dead, .dead => true
 | _, _ => false
def eqOs : List AObj → List AObj → Bool
 | [], [] => true
 | c :: cs, c' :: cs' => eqO c c' && eqOs cs cs'
 | _, _ => false
theorem eqT_ok {x y : Tag} (h : eqT x y = true) : x = y := by
 cases x <;> cases y <;> simp only [eqT, Bool.and_eq_true, Bool.false_eq_true] at h
 ·rfl
 ·rfl
 ·rw [Nat.eq_of_beq_eq_true h.1, Nat.eq_of_beq_eq_true h.2]
theorem eqB_ok : ∀ {x y : List UInt8}, eqB x y = true → x = y
 | [], [], _ => rfl
 | a :: s, b :: t, h => by
  simp only [eqB, Bool.and_eq_true] at h
  rw [eqB_ok h.2, UInt8.toNat_inj.1 (Nat.eq_of_beq_eq_true h.1)]
mutual
theorem eqV_ok : ∀ {x y : AV}, eqV x y = true → x = y
 | .unk, y, h => by cases y <;> simp [eqV] at h ⊢
 | .int k n, y, h => by cases y <;> simp [eqV] at h ⊢; exact h
 | .bool b, y, h => by cases y <;> simp [eqV] at h ⊢; exact h
 | .str s, y, h => by cases y <;> simp only [eqV, Bool.false_eq_true] at h; rw [eqB_ok h]
 | .nilp, y, h => by cases y <;> simp [eqV] at h ⊢
 | .ptr l o, y, h => by
  cases y <;> simp only [eqV, Bool.false_eq_true, Bool.and_eq_true] at h
  rw [Nat.eq_of_beq_eq_true h.1, Nat.eq_of_beq_eq_true h.2]
 | .slice es t, y, h => by
  cases y <;> simp only [eqV, Bool.false_eq_true, Bool.and_eq_true] at h
  rw [eqT_ok h.1, eqLL_ok h.2]
 | .agg cs, y, h => by cases y <;> simp only [eqV, Bool.false_eq_true] at h; rw [eqL_ok h]
 | .tup cs, y, h => by cases y <;> simp only [eqV, Bool.false_eq_true] at h; rw [eqL_ok h]
 | .func f cs, y, h => by
  cases y <;> simp only [eqV, Bool.false_eq_true, Bool.and_eq_true] at h
  rw [Nat.eq_of_beq_eq_true h.1, eqL_ok h.2]
 | .mapr l, y, h => by cases y <;> simp only [eqV, Bool.false_eq_true] at h; rw [Nat.eq_of_beq_eq_true h]
 | .nilFunc, y, h => by cases y <;> simp [eqV] at h ⊢
 | .eptr _, y, h => by cases y <;> simp [eqV] at h
 | .psl _ _ _, y, h => by cases y <;> simp [eqV] at h
 | .flist _, y, h => by cases y <;> simp [eqV] at h
theorem eqL_ok : ∀ {x y : List AV}, eqL x y = true → x = y
 | [], y, h => by cases y <;> simp [eqL] at h ⊢
 | c :: cs, y, h => by
  cases y <;> simp only [eqL, Bool.false_eq_true, Bool.and_eq_true] at h
  rw [eqV_ok h.1, eqL_ok h.2]
theorem eqLL_ok : ∀ {x y : List (List AV)}, eqLL x y = true → x = y
 | [], y, h => by cases y <;> simp [eqLL] at h ⊢
 | c :: cs, y, h => by
  cases y <;> simp only [eqLL, Bool.false_eq_true, Bool.and_eq_true] at h
  rw [eqL_ok h.1, eqLL_ok h.2]
end
theorem eqO_ok {x y : AObj} (h : eqO x y = true) : x = y := by
 cases x <;> cases y <;> simp only [eqO, Bool.false_eq_true] at h
 ·rw [eqL_ok h]
 ·rw [Nat.eq_of_beq_eq_true h]
 ·rfl
theorem eqOs_ok : ∀ {x y : List AObj}, eqOs x y = true → x = y
 | [], y, h => by cases y <;> simp [eqOs] at h ⊢
 | c :: cs, y, h => by
  cases y <;> simp only [eqOs, Bool.false_eq_true, Bool.and_eq_true] at h
  rw [eqO_ok h.1, eqOs_ok h.2]
structure Known where
 f : Nat
 args : List AV
 H : List AObj
 res : AV
 H' : List AObj
def known : List Known → CallT → CallT
 | [], E, f, args, H => E f args H
 | e :: m, E, f, args, H => bif Nat.beq e.f f && (eqL e.args args && eqOs e.H H) then some (e.res, e.H') else known m E f args H
theorem known_ok {P : Program} {E : CallT} (hE : ∀ f args H r, E f args H = some r → ACalls P f args H r.1 r.2) : ∀ (m : List Known), (∀ e ∈ m, ACalls P e.f e.args e.H e.res e.H') → ∀ f args H r, known m E f args H = some r → ACalls P f args H r.1 r.2
 | [], _, f, args, H, r, h => hE f args H r h
 | e :: m, hm, f, args, H, r, h => by
  unfold known at h
  cases hb : (Nat.beq e.f f && (eqL e.args args && eqOs e.H H)) with
  | false => rw [hb] at h; exact known_ok hE m (fun e he => hm e (List.mem_cons_of_mem _ he)) f args H r h
  | true =>
   rw [hb] at h
   simp only [cond_true, Option.some.injEq] at h
   subst h
   simp only [Bool.and_eq_true] at hb
   have := hm e (by simp)
   rw [Nat.eq_of_beq_eq_true hb.1, eqL_ok hb.2.1, eqOs_ok hb.2.2] at this
   exact this
end Abs
end Go.Proofs.YtiiaccpcoclklaaGreat
namespace Go.Proofs.YtiiaccpcoclklaaGreat
namespace Abs
open Go Go.Proofs
noncomputable def sort3 (H : List AObj) : AObj → Option (AV × List AObj)
 | .mp es => bif Nat.ble (es.length * 16) 140737488355328 then some (.slice (((es.map (·.1)).mergeSort leS).map encS) .shared, H) else none
 | _ => none
noncomputable def sort2 (H : List AObj) : AObj → Option (AV × List AObj)
 | .box [.mapr m] => sort3 H (nthO H m)
 | _ => none
noncomputable def sort1 (H : List AObj) : List AV → Option (AV × List AObj)
 | [.func g [.ptr p o]] => bif Nat.beq g 185 && Nat.beq o 0 then sort2 H (nthO H p) else none
 | _ => none
noncomputable def sortE : CallT := fun f args H => bif Nat.beq f 104 then sort1 H args else none
theorem sortE_ok : ∀ f args H r, sortE f args H = some r → ACalls Tryz.prog f args H r.1 r.2 := by
 intro f args H r h
 unfold sortE at h
 cases hf : Nat.beq f 104 with
 | false => rw [hf] at h; cases h
 | true =>
  rw [hf] at h
  simp only [cond_true] at h
  rw [Nat.eq_of_beq_eq_true hf]
  unfold sort1 at h
  split at h
  ·rename_i g p o
   cases hb : (Nat.beq g 185 && Nat.beq o 0) with
   | false => rw [hb] at h; cases h
   | true =>
    rw [hb] at h
    simp only [cond_true] at h
    simp only [Bool.and_eq_true] at hb
    rw [Nat.eq_of_beq_eq_true hb.1, Nat.eq_of_beq_eq_true hb.2]
    unfold sort2 at h
    split at h
    ·rename_i m hp
     unfold sort3 at h
     split at h
     ·rename_i es hm
      cases hl : Nat.ble (es.length * 16) 140737488355328 with
      | false => rw [hl] at h; cases h
      | true =>
       rw [hl] at h
       simp only [cond_true, Option.some.injEq] at h
       subst h
       rw [nthO_eq] at hp hm
       exact sorted_calls H p m es hp hm (Nat.le_of_ble_eq_true hl)
     ·cases h
    ·cases h
  ·cases h
def okB (f : Nat) : Bool := Nat.blt 1 f && Nat.blt f 302
theorem okB_all : ((List.range 302).all fun f => !(Nat.blt 1 f) || okFn Tryz.prog f) = true := by kernel_rfl
theorem okB_ok : ∀ f, okB f = true → okFn Tryz.prog f = true := by
 intro f h
 simp only [okB, Bool.and_eq_true] at h
 have := List.all_eq_true.1 okB_all f (List.mem_range.2 (Nat.le_of_ble_eq_true h.2))
 simpa [h.1] using this
noncomputable def runK (m : List Known) (f : Nat) (args : List AV) (H : List AObj) : Option (AV × List AObj) := xcall Tryz.prog (known m sortE) okB [(60, 59, 1)] [67, 131] 200 f args H
theorem runK_ok {m : List Known} (hm : ∀ e ∈ m, ACalls Tryz.prog e.f e.args e.H e.res e.H') {f : Nat} {args : List AV} {H : List AObj} {r : AV} {H' : List AObj} (h : runK m f args H = some (r, H')) : ACalls Tryz.prog f args H r H' :=
 xcall_ok mixedO (known_ok sortE_ok m hm) okB_ok _ _ _ _ _ h
end Abs
end Go.Proofs.YtiiaccpcoclklaaGreat

/-
  The contracts of maps.Keys and slices.Sorted on abstract values, by the kit's own proofs. Conditions: none.
-/
import Derived.KernelRfl
import Derived.Test.YtiiaccpcoclklaaGreatCAbs38x04b7ad
set_option linter.unusedSimpArgs false
set_option linter.unusedVariables false
namespace Go.Proofs.YtiiaccpcoclklaaGreat
namespace Abs
open Go Go.Proofs Go.RowKit Go.Maps Go.Sort Go.Shelf
theorem ai5 (m : Nat) : AnyZ.SortsIn Tryz.prog Tryz.Lb Fence.wide m :=
 ⟨fun blk off cap ss W hH hblk hsz => callsIn_wide.2 (AnyM.slices_Sort_string Tryz.adp blk off cap ss W hH hblk hsz),
  fun p cap W => callsIn_wide.2 (AnyM.slices_Sort_string_none Tryz.adp p cap W)⟩
set_option maxHeartbeats 1000000 in
theorem aeU (b bm nn : Nat) (D0 : DataW Unit) (R : Value → Option (DataW Unit × List MemPlace)) (w : World) (hbm : bm < w.heap.size) (hc : w.cell? ⟨bm, 0, none⟩ = some (.map (some b))) (hown : w.ownsMap Tryz.prog 9 R b nn D0) (hmax : Maps.size D0 ≤ maxLen) (hbytes : Maps.size D0 * 16 ≤ 140737488355328) :
  CallsIn Fence.wide 5 Tryz.prog 104 #[.func (.func 185) #[] #[.pointer (some ⟨bm, 0, none⟩)]] w fun e w' => ∃ (v : Value) (ss : List (List UInt8)), e = .returned v ∧ ss.Perm (strKeys D0) ∧
   w'.ownsRow w.heap.size 9 1 v ss.length ((ss.mergeSort (fun x y => decide (x ≤ y))).map encStr) ∧ (v = .slice none 0 0 ↔ ss = []) ∧ Below w.heap.size w w' := by
 have hseq : SeqGives Fence.wide 2 Tryz.prog 185 #[.pointer (some ⟨bm, 0, none⟩)] encStr (fun ss => ss.Perm (strKeys D0)) (Maps.size D0) w :=
  AnyZ.keys_gives (ρ := Tryz.Rv) { Tryz.akl with } Fence.wide _ trivial rfl (by omega) bm b nn D0 _ hbm hc hown
 exact AnyZ.sorted_in Tryz.agC Fence.wide 5 trivial trivial trivial trivial rfl (by omega) (ai5 _) (enters_of Tryz.func184 (by kernel_rfl) rfl) 185 #[.pointer (some ⟨bm, 0, none⟩)] trivial (enters_of Tryz.func185 (by kernel_rfl) rfl) _ _ hmax hbytes _ hseq
theorem Leave.same {κ : cB} {bq : fZ} {H : List AObj} {w w' : World} (he : Entry κ bq H w) (hb : Go.RowKit.Below w.heap.size w w') : Leave κ κ bq H H w w' := by
 have hcell : ∀ b off u, w.cell? ⟨b, off, none⟩ = some u → w'.cell? ⟨b, off, none⟩ = some u := fun b off u hc => by
  have hlt := lt_of_cell hc
  simp only [World.cell?, hb.block b hlt] at hc ⊢
  exact hc
 have hevo : Evo (aX bq κ H) w w' := ⟨hb.size, fun b off u _ hc => hcell b off u hc, fun b c e z hx => ⟨c, by rw [hb.block b (Array.getElem?_eq_some_iff.1 hx).1]; exact hx, rfl⟩⟩
 exact ⟨he.klen, Nat.le_refl _, fP.refl _, he.resv, fun l b h1 h2 => (he.obj l b h1 h2).mono (hb.block b (he.bound l b h1)) hevo (fP.refl _) (fun _ _ h _ => h),
  fun l b h1 h2 => .inr ⟨l, h1, h2⟩, he.apart, fun l b h1 => Nat.lt_of_lt_of_le (he.bound l b h1) hb.size, fun b hlt _ => hb.block b hlt, hevo, fun _ _ h _ => h, hb.os, hb.tape, hb.output⟩
theorem alq {κ : cB} {bq : fZ} {H : List AObj} {w : World} (he : Entry κ bq H w) {b o : Nat} (h : aX bq κ H b o) : b < w.heap.size := by
 rcases h with h | ⟨l, h1, _⟩
 ·exact he.pvlt b o h
 ·exact he.bound l b h1
theorem M7 (H : List AObj) (p m : Nat) (es : List (List UInt8 × AV)) (hp : obj? H p = .box [.mapr m]) (hm : obj? H m = .mp es) (hb16 : es.length * 16 ≤ 140737488355328) :
  aA Tryz.prog 104 [.func 185 [.ptr p 0]] H (.slice (((es.map (·.1)).mergeSort AO).map encS) .shared) H := by
 intro κ bq w vs hen hlen hr
 have h0 := hr 0 (by simp)
 match vs, hlen with
 | [v], _ =>
 simp only [List.getD, List.getElem?_cons_zero, Option.getD_some] at h0
 obtain ⟨cs, rfl, hcl, hcr⟩ := h0.Kj
 match cs, hcl with
 | [cp], _ =>
 have h1 := hcr 0 (by simp)
 simp only [List.getD, List.getElem?_cons_zero, Option.getD_some] at h1
 obtain ⟨bm, rfl, hbm⟩ := h1.wO
 have ho := hen.obj p bm hbm (by rw [hp]; trivial)
 rw [hp] at ho
 obtain ⟨c, el, g1, g2, g3⟩ := ho
 have h2 := g3 0 (by simp)
 simp only [List.getD, List.getElem?_cons_zero, Option.getD_some] at h2
 have hcell : w.cell? ⟨bm, 0, none⟩ = some (c.getD 0 undef) := by
  have : 0 < c.size := by rw [g2]; simp
  simp [World.cell?, g1, Array.getD, this]
 generalize c.getD 0 undef = cv at h2 hcell
 cases h2 with
 | @mapr _ b hb =>
 have hmo := hen.obj m b hb (by rw [hm]; trivial)
 rw [hm] at hmo
 obtain ⟨ms, clock, k1, k2, k3, k4⟩ := hmo
 have k31 : es.length ≤ 140737488355328 := by have := k3.1; rwa [List.length_map] at this
 have hk9 : Tryz.prog.underlying 9 = some .string := by kernel_rfl
 let R : Value → Option (DataW Unit × List MemPlace) := fun _ => some (.lit (.bool true), [])
 have hkeys : ∀ j, (hj : j < ms.size) → keyOf Tryz.prog 9 ms[j].key = some (.string (es.getD j ([], .unk)).1) := fun j hj => by
  have h5 := (k4 j (by omega)).1
  have e : ms.getD j default = ms[j] := by simp [Array.getD, hj]
  rw [e] at h5
  rw [h5, Go.WideMaps.keyOf_string_mk hk9]
  have hmem : (es.getD j ([], .unk)).1 ∈ es.map (·.1) := by
   have hj' : j < es.length := by omega
   rw [List.getD, List.getElem?_eq_getElem hj', Option.getD_some]
   exact List.mem_map.2 ⟨_, List.getElem_mem _, rfl⟩
  have := k3.2.2 _ hmem
  simpa [ByteArray.size, maxLen] using this
 have hrd : ∀ j, (hj : j < ms.size) → WideElems.rd Tryz.prog 9 R ms[j] = some (.string (es.getD j ([], .unk)).1, .lit (.bool true)) := fun j hj => by
  simp only [WideElems.rd, hkeys j hj, Option.bind_some, R, Option.map_some]
 have hown : w.ownsMap Tryz.prog 9 R b es.length (.map ((ms.toList.map (WideElems.rg Tryz.prog 9 R)).foldr DataW.insert [])) := by
  refine ⟨ms, clock, k1, ⟨?_, k3.2.1, fun x hx => ?_⟩, by omega, rfl⟩
  ·simp only [maxLen]; omega
  ·obtain ⟨j, hj, rfl⟩ := List.getElem_of_mem hx
   simp only [Array.length_toList] at hj
   exact ⟨_, by simpa using hrd j hj⟩
 have hperm : (strKeys (.map ((ms.toList.map (WideElems.rg Tryz.prog 9 R)).foldr DataW.insert []))).Perm (es.map (·.1)) := by
  simp only [strKeys]
  refine ((WideShapes.sorted_perm _).map _).trans ?_
  have e : (ms.toList.map (WideElems.rg Tryz.prog 9 R)).map (fun p => strOf p.1) = es.map (·.1) := by
   apply List.ext_getElem
   ·simp [k2]
   ·intro j h1 h2
    simp only [List.length_map, Array.length_toList] at h1 h2
    simp only [List.getElem_map, Array.getElem_toList]
    rw [WideElems.rg_of (hrd j h1)]
    simp [strOf, List.getD, List.getElem?_eq_getElem h2]
  rw [e]
 have hsz : Maps.size (H := Unit) (.map ((ms.toList.map (WideElems.rg Tryz.prog 9 R)).foldr DataW.insert [])) = es.length := by
  rw [size_eq, DataW.length_sorted]; simp [k2]
 have hcall := callsIn_wide.1 (aeU b bm es.length _ R w (hen.bound p bm hbm) hcell hown (by rw [hsz]; simp only [maxLen]; omega) (by rw [hsz]; exact hb16))
 refine hcall.mono ?_
 rintro e w' ⟨v, ss, rfl, hss, hrow, _, hbel⟩
 refine ⟨v, κ, rfl, Leave.same hen hbel, ?_⟩
 have hsort : ss.mergeSort (fun x y => decide (x ≤ y)) = (es.map (·.1)).mergeSort AO := mergeSort_of_perm (hss.trans hperm)
 rw [hsort] at hrow
 generalize hL : (es.map (·.1)).mergeSort AO = L at hrow
 have hLl : L.length = es.length := by rw [← hL]; simp
 have hssl : ss.length = es.length := by have := (hss.trans hperm).length_eq; simpa using this
 have hLk : ∀ x ∈ L, x.length ≤ 9223372036854775807 := fun x hx => k3.2.2 x (by rw [← hL] at hx; exact (List.mergeSort_perm _ _).mem_iff.1 hx)
 obtain ⟨hrl, hrow⟩ := hrow
 rcases hrow with ⟨rfl, hz⟩ | ⟨g, cap, cur, rfl, hbase, hg, hcap, _, hcur, htake⟩
 ·have : L = [] := List.length_eq_zero_iff.1 (by omega)
  subst this
  have := Rel.slice (w := w') (κ := κ) (pv := aX bq κ H) (es := []) (tag := .shared) (a := none) (cap := 0) 0 0 1 (fun _ _ => undef) (fun i h => by cases h) (fun h => (h rfl).elim) (Nat.le_refl _) (by simp) (fun i j h => by cases h) (fun i j h => by cases h) (fun i j h => by cases h) trivial
  simpa using this
 ·have hgi : ∀ i, i < L.length → w'.cell? ⟨g, 0 + (i * 1 + 0), none⟩ = some (encStr (L.getD i [])) := fun i hi => by
   have hcs : i < cur.size := by omega
   have e1 : cur[i] = encStr (L.getD i []) := by
    have : (cur.toList.take (ss.length * 1))[i]? = some (encStr (L.getD i [])) := by
     rw [htake, List.getElem?_map, List.getElem?_eq_getElem hi]
     simp [List.getD, List.getElem?_eq_getElem hi]
    rw [List.getElem?_take, if_pos (by omega)] at this
    simpa [hcs] using this
   have e0 : 0 + (i * 1 + 0) = i := by omega
   rw [e0]
   simp [World.cell?, hg, hcs, e1]
  have hlen2 : (L.map encS).length = es.length := by simp [hLl]
  have := Rel.slice (w := w') (κ := κ) (pv := aX bq κ H) (es := L.map encS) (tag := .shared) (a := some ⟨g, 0, none⟩) (cap := cap) g 0 1 (fun i _ => encStr (L.getD i []))
   (fun i hi => by simp only [List.length_map] at hi; simp [List.getD, List.getElem?_eq_getElem hi, encS]) (fun _ => rfl) (by omega) (by omega)
   (fun i j _ _ hpv => by have := alq hen hpv; omega)
   (fun i j hi hj => by
    simp only [List.length_map] at hi
    have hj0 : j = 0 := by omega
    subst hj0
    exact hgi i hi)
   (fun i j hi hj => by
    simp only [List.length_map] at hi
    have hj0 : j = 0 := by omega
    subst hj0
    have e : ((L.map encS).getD i []).getD 0 .unk = .str (L.getD i []) := by simp [List.getD, List.getElem?_eq_getElem hi, encS]
    rw [e]
    refine .str (hLk _ ?_)
    rw [List.getD, List.getElem?_eq_getElem hi]; exact List.getElem_mem _) trivial
  rw [hlen2] at this
  rw [hssl]
  exact this
end Abs
end Go.Proofs.YtiiaccpcoclklaaGreat
namespace Go.Proofs.YtiiaccpcoclklaaGreat
namespace Abs
open Go
def eqT : Tag → Tag → Bool
 | .shared, .shared => true
 | .nils, .nils => true
 | .tip l z, .tip l' z' => Nat.beq l l' && Nat.beq z z'
 | _, _ => false
def eqB : List UInt8 → List UInt8 → Bool
 | [], [] => true
 | a :: s, b :: t => Nat.beq a.toNat b.toNat && eqB s t
 | _, _ => false
mutual
def Di : AV → AV → Bool
 | .unk, .unk => true
 | .int k n, .int k' n' => decide (k = k') && decide (n = n')
 | .bool b, .bool b' => b == b'
 | .str s, .str s' => eqB s s'
 | .nilp, .nilp => true
 | .ptr l o, .ptr l' o' => Nat.beq l l' && Nat.beq o o'
 | .slice es t, .slice es' t' => eqT t t' && abe es es'
 | .agg cs, .agg cs' => MC cs cs'
 | .aZ cs, .aZ cs' => MC cs cs'
 | .func f cs, .func f' cs' => Nat.beq f f' && MC cs cs'
 | .mapr l, .mapr l' => Nat.beq l l'
 | .nilFunc, .nilFunc => true
 | _, _ => false
def MC : List AV → List AV → Bool
 | [], [] => true
 | c :: cs, c' :: cs' => Di c c' && MC cs cs'
 | _, _ => false
def abe : List (List AV) → List (List AV) → Bool
 | [], [] => true
 | c :: cs, c' :: cs' => MC c c' && abe cs cs'
 | _, _ => false
end
def eqO : AObj → AObj → Bool
 | .box cs, .box cs' => MC cs cs'
 | .tip n, .tip n' => Nat.beq n n'
 | .dead, .dead => true
 | _, _ => false
def Xl : List AObj → List AObj → Bool
 | [], [] => true
 | c :: cs, c' :: cs' => eqO c c' && Xl cs cs'
 | _, _ => false
theorem al2 {x y : Tag} (h : eqT x y = true) : x = y := by
 cases x <;> cases y <;> simp only [eqT, Bool.and_eq_true, Bool.false_eq_true] at h
 ·rfl
 ·rfl
 ·rw [Nat.eq_of_beq_eq_true h.1, Nat.eq_of_beq_eq_true h.2]
theorem ahv : ∀ {x y : List UInt8}, eqB x y = true → x = y
 | [], [], _ => rfl
 | a :: s, b :: t, h => by
  simp only [eqB, Bool.and_eq_true] at h
  rw [ahv h.2, UInt8.toNat_inj.1 (Nat.eq_of_beq_eq_true h.1)]
mutual
theorem amq : ∀ {x y : AV}, Di x y = true → x = y
 | .unk, y, h => by cases y <;> simp [Di] at h ⊢
 | .int k n, y, h => by cases y <;> simp [Di] at h ⊢; exact h
 | .bool b, y, h => by cases y <;> simp [Di] at h ⊢; exact h
 | .str s, y, h => by cases y <;> simp only [Di, Bool.false_eq_true] at h; rw [ahv h]
 | .nilp, y, h => by cases y <;> simp [Di] at h ⊢
 | .ptr l o, y, h => by
  cases y <;> simp only [Di, Bool.false_eq_true, Bool.and_eq_true] at h
  rw [Nat.eq_of_beq_eq_true h.1, Nat.eq_of_beq_eq_true h.2]
 | .slice es t, y, h => by
  cases y <;> simp only [Di, Bool.false_eq_true, Bool.and_eq_true] at h
  rw [al2 h.1, adS h.2]
 | .agg cs, y, h => by cases y <;> simp only [Di, Bool.false_eq_true] at h; rw [EW h]
 | .aZ cs, y, h => by cases y <;> simp only [Di, Bool.false_eq_true] at h; rw [EW h]
 | .func f cs, y, h => by
  cases y <;> simp only [Di, Bool.false_eq_true, Bool.and_eq_true] at h
  rw [Nat.eq_of_beq_eq_true h.1, EW h.2]
 | .mapr l, y, h => by cases y <;> simp only [Di, Bool.false_eq_true] at h; rw [Nat.eq_of_beq_eq_true h]
 | .nilFunc, y, h => by cases y <;> simp [Di] at h ⊢
 | .eptr _, y, h => by cases y <;> simp [Di] at h
 | .psl _ _ _, y, h => by cases y <;> simp [Di] at h
 | .flist _, y, h => by cases y <;> simp [Di] at h
theorem EW : ∀ {x y : List AV}, MC x y = true → x = y
 | [], y, h => by cases y <;> simp [MC] at h ⊢
 | c :: cs, y, h => by
  cases y <;> simp only [MC, Bool.false_eq_true, Bool.and_eq_true] at h
  rw [amq h.1, EW h.2]
theorem adS : ∀ {x y : List (List AV)}, abe x y = true → x = y
 | [], y, h => by cases y <;> simp [abe] at h ⊢
 | c :: cs, y, h => by
  cases y <;> simp only [abe, Bool.false_eq_true, Bool.and_eq_true] at h
  rw [EW h.1, adS h.2]
end
theorem alL {x y : AObj} (h : eqO x y = true) : x = y := by
 cases x <;> cases y <;> simp only [eqO, Bool.false_eq_true] at h
 ·rw [EW h]
 ·rw [Nat.eq_of_beq_eq_true h]
 ·rfl
theorem ado : ∀ {x y : List AObj}, Xl x y = true → x = y
 | [], y, h => by cases y <;> simp [Xl] at h ⊢
 | c :: cs, y, h => by
  cases y <;> simp only [Xl, Bool.false_eq_true, Bool.and_eq_true] at h
  rw [alL h.1, ado h.2]
structure Known where
 f : Nat
 args : List AV
 H : List AObj
 res : AV
 H' : List AObj
def known : List Known → rV → rV
 | [], E, f, args, H => E f args H
 | e :: m, E, f, args, H => bif Nat.beq e.f f && (MC e.args args && Xl e.H H) then some (e.res, e.H') else known m E f args H
theorem aaV {P : Program} {E : rV} (hE : ∀ f args H r, E f args H = some r → aA P f args H r.1 r.2) : ∀ (m : List Known), (∀ e ∈ m, aA P e.f e.args e.H e.res e.H') → ∀ f args H r, known m E f args H = some r → aA P f args H r.1 r.2
 | [], _, f, args, H, r, h => hE f args H r h
 | e :: m, hm, f, args, H, r, h => by
  unfold known at h
  cases hb : (Nat.beq e.f f && (MC e.args args && Xl e.H H)) with
  | false => rw [hb] at h; exact aaV hE m (fun e he => hm e (List.mem_cons_of_mem _ he)) f args H r h
  | true =>
   rw [hb] at h
   simp only [cond_true, Option.some.injEq] at h
   subst h
   simp only [Bool.and_eq_true] at hb
   have := hm e (by simp)
   rw [Nat.eq_of_beq_eq_true hb.1, EW hb.2.1, ado hb.2.2] at this
   exact this
end Abs
end Go.Proofs.YtiiaccpcoclklaaGreat
namespace Go.Proofs.YtiiaccpcoclklaaGreat
namespace Abs
open Go Go.Proofs
noncomputable def ajx (H : List AObj) : AObj → Option (AV × List AObj)
 | .mp es => bif Nat.ble (es.length * 16) 140737488355328 then some (.slice (((es.map (·.1)).mergeSort AO).map encS) .shared, H) else none
 | _ => none
noncomputable def ajq (H : List AObj) : AObj → Option (AV × List AObj)
 | .box [.mapr m] => ajx H (ach H m)
 | _ => none
noncomputable def ajs (H : List AObj) : List AV → Option (AV × List AObj)
 | [.func g [.ptr p o]] => bif Nat.beq g 185 && Nat.beq o 0 then ajq H (ach H p) else none
 | _ => none
noncomputable def afH : rV := fun f args H => bif Nat.beq f 104 then ajs H args else none
theorem ain : ∀ f args H r, afH f args H = some r → aA Tryz.prog f args H r.1 r.2 := by
 intro f args H r h
 unfold afH at h
 cases hf : Nat.beq f 104 with
 | false => rw [hf] at h; cases h
 | true =>
  rw [hf] at h
  simp only [cond_true] at h
  rw [Nat.eq_of_beq_eq_true hf]
  unfold ajs at h
  split at h
  ·rename_i g p o
   cases hb : (Nat.beq g 185 && Nat.beq o 0) with
   | false => rw [hb] at h; cases h
   | true =>
    rw [hb] at h
    simp only [cond_true] at h
    simp only [Bool.and_eq_true] at hb
    rw [Nat.eq_of_beq_eq_true hb.1, Nat.eq_of_beq_eq_true hb.2]
    unfold ajq at h
    split at h
    ·rename_i m hp
     unfold ajx at h
     split at h
     ·rename_i es hm
      cases hl : Nat.ble (es.length * 16) 140737488355328 with
      | false => rw [hl] at h; cases h
      | true =>
       rw [hl] at h
       simp only [cond_true, Option.some.injEq] at h
       subst h
       rw [Y3] at hp hm
       exact M7 H p m es hp hm (Nat.le_of_ble_eq_true hl)
     ·cases h
    ·cases h
  ·cases h
def okB (f : Nat) : Bool := Nat.blt 1 f && Nat.blt f 302
theorem akv : ((List.range 302).all fun f => !(Nat.blt 1 f) || au Tryz.prog f) = true := by kernel_rfl
theorem alI : ∀ f, okB f = true → au Tryz.prog f = true := by
 intro f h
 simp only [okB, Bool.and_eq_true] at h
 have := List.all_eq_true.1 akv f (List.mem_range.2 (Nat.le_of_ble_eq_true h.2))
 simpa [h.1] using this
noncomputable def runK (m : List Known) (f : Nat) (args : List AV) (H : List AObj) : Option (AV × List AObj) := Uw Tryz.prog (known m afH) okB [(60, 59, 1)] [67, 131] 200 f args H
theorem WY {m : List Known} (hm : ∀ e ∈ m, aA Tryz.prog e.f e.args e.H e.res e.H') {f : Nat} {args : List AV} {H : List AObj} {r : AV} {H' : List AObj} (h : runK m f args H = some (r, H')) : aA Tryz.prog f args H r H' :=
 aiP rR (aaV ain m hm) alI _ _ _ _ _ h
end Abs
end Go.Proofs.YtiiaccpcoclklaaGreat

/-
  The records of the types that walks ask for. Conditions: none.
-/
import Derived.Test.YtkopaeklihhdlaaGreatProg
import Derived.KernelRfl
import Derived.Shelf.SlGeneric
import Derived.Shelf.SlIter.Nil
import Derived.Shelf.SortM.Plain
import Derived.Shelf.SortM.SortNone
import Derived.Ground.GgzProg
import Derived.Ground.SlgmProg
import Derived.Test.YtkopaeklihhdlaaGreatCAbs38oxaced69
set_option linter.unusedSimpArgs false
set_option linter.unusedVariables false
namespace Go.Proofs.YtkopaeklihhdlaaGreat
namespace Abs
open Go Go.Proofs
def ti3 : TI := ⟨some 1, some false, false, false, false, false, false, some .i64, .no, [], [], some ([.int .i64 0]), some (.int .i64 0), none, none, none⟩
def ti4 : TI := ⟨some 1, some false, false, true, false, false, false, none, .no, [], [], some ([.bool false]), some (.bool false), none, none, none⟩
def ti5 : TI := ⟨some 1, some false, false, false, false, false, false, some .u8, .no, [], [], some ([.int .u8 0]), some (.int .u8 0), none, none, none⟩
def ti9 : TI := ⟨some 1, some false, false, false, true, false, false, none, .no, [], [], some ([.str []]), some (.str []), none, none, none⟩
def ajM : TI := ⟨some 1, some false, false, false, false, false, false, none, .no, [], [], some ([.unk]), some (.unk), none, none, none⟩
def ajC : TI := ⟨some 1, some false, false, false, false, false, true, none, .sl (some 2), [], [], some ([.slice [] .nils]), some (.slice [] .nils), some 2, some (71, 2, 40), none⟩
def akf : TI := ⟨some 1, some false, false, false, false, false, true, none, .sl (some 4), [], [], some ([.slice [] .nils]), some (.slice [] .nils), some 4, some (74, 4, 64), none⟩
def aj9 : TI := ⟨some 2, some true, false, false, false, true, false, none, .no, [some (0, 22), some (1, 23)], [some (0, 1), some (1, 1)], some ([.slice [] .nils, .slice [] .nils]), some (.agg ([.slice [] .nils, .slice [] .nils])), none, none, none⟩
def ajA : TI := ⟨some 1, some false, false, false, false, false, true, none, .sl (some 1), [], [], some ([.slice [] .nils]), some (.slice [] .nils), some 1, some (3, 1, 8), none⟩
def ajF : TI := ⟨some 1, some false, false, false, false, false, true, none, .sl (some 4), [], [], some ([.slice [] .nils]), some (.slice [] .nils), some 4, some (31, 4, 56), none⟩
def aju : TI := ⟨some 4, some true, false, false, false, true, false, none, .no, [some (0, 25), some (2, 26), some (3, 27)], [some (0, 2), some (2, 1), some (3, 1)], some ([.slice [] .nils, .slice [] .nils, .slice [] .nils, .slice [] .nils]), some (.agg ([.slice [] .nils, .slice [] .nils, .slice [] .nils, .slice [] .nils])), none, none, none⟩
def aj6 : TI := ⟨some 4, some true, false, false, false, true, false, none, .no, [some (0, 3), some (1, 3), some (2, 9), some (3, 27)], [some (0, 1), some (1, 1), some (2, 1), some (3, 1)], some ([.int .i64 0, .int .i64 0, .str [], .slice [] .nils]), some (.agg ([.int .i64 0, .int .i64 0, .str [], .slice [] .nils])), none, none, none⟩
def akh : TI := ⟨some 1, some false, false, false, false, false, true, none, .sl (some 3), [], [], some ([.slice [] .nils]), some (.slice [] .nils), some 3, some (34, 3, 48), none⟩
def ajD : TI := ⟨some 3, some true, false, false, false, true, false, none, .no, [some (0, 3), some (1, 9), some (2, 32)], [some (0, 1), some (1, 1), some (2, 1)], some ([.int .i64 0, .str [], .slice [] .nils]), some (.agg ([.int .i64 0, .str [], .slice [] .nils])), none, none, none⟩
def ajx : TI := ⟨some 8, some true, false, false, false, true, false, none, .no, [some (0, 26), some (1, 31), some (5, 34)], [some (0, 1), some (1, 4), some (5, 3)], some ([.slice [] .nils, .int .i64 0, .int .i64 0, .str [], .slice [] .nils, .int .i64 0, .str [], .slice [] .nils]), some (.agg ([.slice [] .nils, .int .i64 0, .int .i64 0, .str [], .slice [] .nils, .int .i64 0, .str [], .slice [] .nils])), none, none, none⟩
def ajj : TI := ⟨some 3, some true, false, false, false, true, false, none, .no, [some (0, 26), some (1, 3), some (2, 3)], [some (0, 1), some (1, 1), some (2, 1)], some ([.slice [] .nils, .int .i64 0, .int .i64 0]), some (.agg ([.slice [] .nils, .int .i64 0, .int .i64 0])), none, none, none⟩
def ajI : TI := ⟨some 1, some false, false, false, false, false, false, some .i64, .no, [], [], some ([.int .i64 0]), some (.int .i64 0), none, none, none⟩
def aj7 : TI := ⟨some 2, some true, false, false, false, true, false, none, .no, [some (0, 9), some (1, 26)], [some (0, 1), some (1, 1)], some ([.str [], .slice [] .nils]), some (.agg ([.str [], .slice [] .nils])), none, none, none⟩
def ajG : TI := ⟨some 1, some false, false, false, false, false, false, none, .no, [], [], some ([.nilFunc]), some (.nilFunc), none, none, none⟩
def ajK : TI := ⟨some 1, some false, false, false, false, false, true, none, .sl (some 1), [], [], some ([.slice [] .nils]), some (.slice [] .nils), some 1, some (9, 1, 16), none⟩
def aj3 : TI := ⟨some 2, some true, false, false, false, true, false, none, .no, [some (0, 9), some (1, 69)], [some (0, 1), some (1, 1)], some ([.str [], .slice [] .nils]), some (.agg ([.str [], .slice [] .nils])), none, none, none⟩
def ake : TI := ⟨some 4, some true, false, false, false, true, false, none, .no, [some (0, 9), some (1, 34)], [some (0, 1), some (1, 3)], some ([.str [], .int .i64 0, .str [], .slice [] .nils]), some (.agg ([.str [], .int .i64 0, .str [], .slice [] .nils])), none, none, none⟩
def akb : TI := ⟨some 1, some false, false, false, false, false, true, none, .sl (some 7), [], [], some ([.slice [] .nils]), some (.slice [] .nils), some 7, some (78, 7, 104), none⟩
def ajv : TI := ⟨some 7, some true, false, false, false, true, false, none, .no, [some (0, 3), some (1, 9), some (2, 3), some (3, 34), some (6, 76)], [some (0, 1), some (1, 1), some (2, 1), some (3, 3), some (6, 1)], some ([.int .i64 0, .str [], .int .i64 0, .int .i64 0, .str [], .slice [] .nils, .slice [] .nils]), some (.agg ([.int .i64 0, .str [], .int .i64 0, .int .i64 0, .str [], .slice [] .nils, .slice [] .nils])), none, none, none⟩
def ajo : TI := ⟨some 1, some false, false, false, false, false, true, none, .sl (some 1), [], [], some ([.slice [] .nils]), some (.slice [] .nils), some 1, some (4, 1, 1), none⟩
def aif : TI := ⟨some 3, some true, false, false, false, true, false, none, .no, [some (0, 3), some (1, 9), some (2, 3)], [some (0, 1), some (1, 1), some (2, 1)], some ([.int .i64 0, .str [], .int .i64 0]), some (.agg ([.int .i64 0, .str [], .int .i64 0])), none, none, none⟩
def aiP : TI := ⟨some 7, some true, false, false, false, true, false, none, .no, [some (0, 9), some (1, 107), some (4, 3), some (5, 3), some (6, 47)], [some (0, 1), some (1, 3), some (4, 1), some (5, 1), some (6, 1)], some ([.str [], .int .i64 0, .str [], .int .i64 0, .int .i64 0, .int .i64 0, .int .i64 0]), some (.agg ([.str [], .int .i64 0, .str [], .int .i64 0, .int .i64 0, .int .i64 0, .int .i64 0])), none, none, none⟩
def aiW : TI := ⟨some 1, some false, true, false, false, false, false, none, .no, [], [], some ([.nilp]), some (.nilp), none, none, none⟩
def aic : TI := ⟨some 1, some false, false, false, false, false, false, some .u64, .no, [], [], some ([.int .u64 0]), some (.int .u64 0), none, none, none⟩
def aiC : TI := ⟨some 3, some true, false, false, false, true, false, none, .no, [some (0, 3), some (1, 3), some (2, 3)], [some (0, 1), some (1, 1), some (2, 1)], some ([.int .i64 0, .int .i64 0, .int .i64 0]), some (.agg ([.int .i64 0, .int .i64 0, .int .i64 0])), none, none, none⟩
def aiU : TI := ⟨some 1, some false, true, false, false, false, false, none, .no, [], [], some ([.nilp]), some (.nilp), none, none, none⟩
def ah9 : TI := ⟨some 1, some false, false, false, false, false, false, none, .no, [], [], some ([.unk]), some (.unk), none, none, some 34⟩
def aiM : TI := ⟨some 1, some false, false, false, false, false, false, none, .no, [], [], some ([.unk]), some (.unk), none, none, some 4⟩
def aii : TI := ⟨some 1, some false, false, false, false, false, false, none, .no, [], [], some ([.nilFunc]), some (.nilFunc), none, none, none⟩
def aiy : TI := ⟨some 57, some true, false, false, false, false, false, none, .arr 57 (some 1), [], [], some (List.replicate 57 (.nilFunc)), some (.agg (List.replicate 57 (.nilFunc))), none, none, none⟩
def aiD : TI := ⟨some 60, some true, false, false, false, true, false, none, .no, [some (0, 161), some (1, 162), some (2, 165), some (59, 26)], [some (0, 1), some (1, 1), some (2, 57), some (59, 1)], some ([.unk, .unk, .nilFunc, .nilFunc, .nilFunc, .nilFunc, .nilFunc, .nilFunc, .nilFunc, .nilFunc, .nilFunc, .nilFunc, .nilFunc, .nilFunc, .nilFunc, .nilFunc, .nilFunc, .nilFunc, .nilFunc, .nilFunc, .nilFunc, .nilFunc, .nilFunc, .nilFunc, .nilFunc, .nilFunc, .nilFunc, .nilFunc, .nilFunc, .nilFunc, .nilFunc, .nilFunc, .nilFunc, .nilFunc, .nilFunc, .nilFunc, .nilFunc, .nilFunc, .nilFunc, .nilFunc, .nilFunc, .nilFunc, .nilFunc, .nilFunc, .nilFunc, .nilFunc, .nilFunc, .nilFunc, .nilFunc, .nilFunc, .nilFunc, .nilFunc, .nilFunc, .nilFunc, .nilFunc, .nilFunc, .nilFunc, .nilFunc, .nilFunc, .slice [] .nils]), some (.agg ([.unk, .unk, .nilFunc, .nilFunc, .nilFunc, .nilFunc, .nilFunc, .nilFunc, .nilFunc, .nilFunc, .nilFunc, .nilFunc, .nilFunc, .nilFunc, .nilFunc, .nilFunc, .nilFunc, .nilFunc, .nilFunc, .nilFunc, .nilFunc, .nilFunc, .nilFunc, .nilFunc, .nilFunc, .nilFunc, .nilFunc, .nilFunc, .nilFunc, .nilFunc, .nilFunc, .nilFunc, .nilFunc, .nilFunc, .nilFunc, .nilFunc, .nilFunc, .nilFunc, .nilFunc, .nilFunc, .nilFunc, .nilFunc, .nilFunc, .nilFunc, .nilFunc, .nilFunc, .nilFunc, .nilFunc, .nilFunc, .nilFunc, .nilFunc, .nilFunc, .nilFunc, .nilFunc, .nilFunc, .nilFunc, .nilFunc, .nilFunc, .nilFunc, .slice [] .nils])), none, none, none⟩
def aiL : TI := ⟨some 1, some false, false, false, false, false, false, none, .no, [], [], some ([.nilFunc]), some (.nilFunc), none, none, none⟩
def aiR : TI := ⟨some 1, some false, false, false, false, false, false, none, .no, [], [], some ([.unk]), some (.unk), none, none, some 31⟩
def aik : TI := ⟨some 1, some false, false, false, false, false, true, none, .sl (some 5), [], [], some ([.slice [] .nils]), some (.slice [] .nils), some 5, some (247, 5, 72), none⟩
def ah8 : TI := ⟨some 5, some true, false, false, false, true, false, none, .no, [some (0, 25), some (2, 26), some (3, 169), some (4, 170)], [some (0, 2), some (2, 1), some (3, 1), some (4, 1)], some ([.slice [] .nils, .slice [] .nils, .slice [] .nils, .unk, .slice [] .nils]), some (.agg ([.slice [] .nils, .slice [] .nils, .slice [] .nils, .unk, .slice [] .nils])), none, none, none⟩
def ahY : TI := ⟨some 1, some false, true, false, false, false, false, none, .no, [], [], some ([.nilp]), some (.nilp), none, none, none⟩
def aiK : TI := ⟨some 1, some false, true, false, false, false, false, none, .no, [], [], some ([.nilp]), some (.nilp), none, none, none⟩
def aiQ : TI := ⟨some 1, some false, false, false, false, false, false, none, .no, [], [], some ([.nilFunc]), some (.nilFunc), none, none, none⟩
def ah0 : TI := ⟨some 5, some true, false, false, false, true, false, none, .no, [some (0, 9), some (1, 34), some (4, 198)], [some (0, 1), some (1, 3), some (4, 1)], some ([.str [], .int .i64 0, .str [], .slice [] .nils, .nilp]), some (.agg ([.str [], .int .i64 0, .str [], .slice [] .nils, .nilp])), none, none, none⟩
def ah6 : TI := ⟨some 8, some true, false, false, false, false, false, none, .arr 2 (some 4), [], [], some ([.int .i64 0, .int .i64 0, .str [], .slice [] .nils, .int .i64 0, .int .i64 0, .str [], .slice [] .nils]), some (.agg ([.int .i64 0, .int .i64 0, .str [], .slice [] .nils, .int .i64 0, .int .i64 0, .str [], .slice [] .nils])), none, none, none⟩
def air : TI := ⟨some 1, some false, false, false, false, false, false, some .i64, .no, [], [], some ([.int .i64 0]), some (.int .i64 0), none, none, none⟩
def aiX : TI := ⟨some 1, some false, false, false, false, false, false, some .u32, .no, [], [], some ([.int .u32 0]), some (.int .u32 0), none, none, none⟩
def aiu : TI := ⟨some 1, some false, false, false, false, false, false, some .u64, .no, [], [], some ([.int .u64 0]), some (.int .u64 0), none, none, none⟩
def aiE : TI := ⟨some 1, some false, false, false, false, false, false, none, .no, [], [], some ([.nilFunc]), some (.nilFunc), none, none, none⟩
def aiS : TI := ⟨some 1, some false, false, false, false, false, false, none, .no, [], [], some ([.nilFunc]), some (.nilFunc), none, none, none⟩
def aiA : TI := ⟨some 5, some true, false, false, false, true, false, none, .no, [some (0, 9), some (1, 31)], [some (0, 1), some (1, 4)], some ([.str [], .int .i64 0, .int .i64 0, .str [], .slice [] .nils]), some (.agg ([.str [], .int .i64 0, .int .i64 0, .str [], .slice [] .nils])), none, none, none⟩
def aie : TI := ⟨some 1, some false, false, false, false, false, false, some .u64, .no, [], [], some ([.int .u64 0]), some (.int .u64 0), none, none, none⟩
def ail : TI := ⟨some 1, some false, false, false, false, false, true, none, .sl (some 1), [], [], some ([.slice [] .nils]), some (.slice [] .nils), some 1, some (27, 1, 24), none⟩
def ahZ : TI := ⟨some 1, some false, false, false, false, false, false, none, .no, [], [], some ([.nilFunc]), some (.nilFunc), none, none, none⟩
def tab : Tr := (.node (.node (.node (.node (.node (.node .nil 3 ti3 .nil) 4 ti4 (.node .nil 5 ti5 .nil)) 9 ti9 (.node (.node .nil 20 ajM .nil) 22 ajC .nil)) 23 akf (.node (.node (.node .nil 25 aj9 .nil) 26 ajA (.node .nil 27 ajF .nil)) 29 aju (.node (.node .nil 31 aj6 .nil) 32 akh .nil))) 34 ajD (.node (.node (.node (.node .nil 36 ajx .nil) 38 ajj (.node .nil 47 ajI .nil)) 59 aj7 (.node (.node .nil 62 ajG .nil) 69 ajK .nil)) 71 aj3 (.node (.node (.node .nil 74 ake .nil) 76 akb (.node .nil 78 ajv .nil)) 99 ajo (.node (.node .nil 107 aif .nil) 110 aiP .nil)))) 115 aiW (.node (.node (.node (.node (.node .nil 140 aic .nil) 155 aiC (.node .nil 157 aiU .nil)) 161 ah9 (.node (.node .nil 162 aiM .nil) 164 aii .nil)) 165 aiy (.node (.node (.node .nil 167 aiD .nil) 168 aiL (.node .nil 169 aiR .nil)) 170 aik (.node (.node .nil 172 ah8 .nil) 194 ahY .nil))) 198 aiK (.node (.node (.node (.node .nil 201 aiQ .nil) 203 ah0 (.node .nil 209 ah6 .nil)) 216 air (.node (.node .nil 224 aiX .nil) 226 aiu .nil)) 235 aiE (.node (.node (.node .nil 239 aiS .nil) 247 aiA .nil) 258 aie (.node (.node .nil 269 ail .nil) 282 ahZ .nil)))))
theorem ahd : tab.keys.map (TI.of Tryz.prog) = tab.vals := by kernel_rfl
noncomputable def τ (t : Nat) : TI := tab.look (TI.of Tryz.prog) t
theorem aJ : τ = TI.of Tryz.prog := agK ahd
theorem dN : Tryz.prog.follows .mixedOrders = true := by kernel_rfl
end Abs
end Go.Proofs.YtkopaeklihhdlaaGreat
namespace Go.Proofs.YtkopaeklihhdlaaGreat
namespace Abs
open Go
inductive Sl : List AV → List AV → Prop where
 | n : Sl [] []
 | u {y : AV} {xs ys : List AV} : Sl xs ys → Sl (.unk :: xs) (y :: ys)
 | s {x : AV} {xs ys : List AV} : Sl xs ys → Sl (x :: xs) (x :: ys)
 | e {es : List (List AV)} {t : Tag} {xs ys : List AV} : Sl xs ys → Sl (.slice es .shared :: xs) (.slice es t :: ys)
section
variable {xs ys : List AV}
theorem Sl.u2 {a b : AV} (hv : Sl xs ys) : Sl (Abs.u2 xs) (a :: b :: ys) := .u (.u hv)
theorem Sl.u4 {a b c d : AV} (hv : Sl xs ys) : Sl (Abs.u4 xs) (a :: b :: c :: d :: ys) := .u2 (.u2 hv)
theorem Sl.u8 {a0 a1 a2 a3 a4 a5 a6 a7 : AV} (hv : Sl xs ys) : Sl (Abs.u8 xs) (a0 :: a1 :: a2 :: a3 :: a4 :: a5 :: a6 :: a7 :: ys) := .u4 (.u4 hv)
theorem Sl.u16 {a0 a1 a2 a3 a4 a5 a6 a7 a8 a9 a10 a11 a12 a13 a14 a15 : AV} (hv : Sl xs ys) : Sl (Abs.u16 xs) (a0 :: a1 :: a2 :: a3 :: a4 :: a5 :: a6 :: a7 :: a8 :: a9 :: a10 :: a11 :: a12 :: a13 :: a14 :: a15 :: ys) := .u8 (.u8 hv)
end
theorem Sl.len {xs ys : List AV} (h : Sl xs ys) : xs.length = ys.length := by
 induction h with
 | n => rfl
 | u _ ih => simp [ih]
 | s _ ih => simp [ih]
 | e _ ih => simp [ih]
theorem Sl.get {xs ys : List AV} (h : Sl xs ys) {w : World} {κ : bA} {pv : bN} {v : Value} : ∀ n, Rel w κ pv (ys.getD n .unk) v → Rel w κ pv (xs.getD n .unk) v := by
 induction h with
 | n => intro n _; exact .unk _
 | u _ ih => intro n hr; cases n with
  | zero => exact .unk _
  | succ n => exact ih n hr
 | s _ ih => intro n hr; cases n with
  | zero => exact hr
  | succ n => exact ih n hr
 | e _ ih => intro n hr; cases n with
  | zero => exact Rel.share hr
  | succ n => exact ih n hr
theorem li {m : Nat} {t t' : List AV} {h : List AObj} (hs : Sl t' t) : Le m t h t' h := fun C κ a w _ s =>
 ⟨κ, s.defers, by rw [s.len]; exact hs.len.symm, fun n hn => hs.get n (s.slot n (by have := hs.len; simp only at hn ⊢; omega)), s.klen, s.kext, s.resv, s.obj, s.apart, s.own, s.bound, s.pvold, s.oldlt, s.old, s.os, s.tape, s.output, s.size, s.pvsub, s.pY⟩
inductive Ol : List AObj → List AObj → Prop where
 | n : Ol [] []
 | s {o : AObj} {xs ys : List AObj} : Ol xs ys → Ol (o :: xs) (o :: ys)
 | b {cs ds : List AV} {xs ys : List AObj} : Sl cs ds → Ol xs ys → Ol (.box cs :: xs) (.box ds :: ys)
theorem Ol.get {xs ys : List AObj} (h : Ol xs ys) : xs.length = ys.length ∧ ∀ l, obj? xs l = obj? ys l ∨ ∃ cs ds, Sl cs ds ∧ obj? xs l = .box cs ∧ obj? ys l = .box ds := by
 induction h with
 | n => exact ⟨rfl, fun l => .inl rfl⟩
 | s _ ih =>
  refine ⟨by simp [ih.1], fun l => ?_⟩
  cases l with
  | zero => exact .inl rfl
  | succ l => exact ih.2 l
 | b hs _ ih =>
  refine ⟨by simp [ih.1], fun l => ?_⟩
  cases l with
  | zero => exact .inr ⟨_, _, hs, rfl, rfl⟩
  | succ l => exact ih.2 l
theorem lo {m : Nat} {t t' : List AV} {h h' : List AObj} (hs : Sl t' t) (ho : Ol h' h) : Le m t h t' h' := fun C κ a w _ s => by
 have hg := ho.get
 have hpv : ∀ l, nC (obj? h' l) = nC (obj? h l) := fun l => by
  rcases hg.2 l with e | ⟨cs, ds, hc, e1, e2⟩
  ·rw [e]
  ·rw [e1, e2]; funext off; simp only [nC, hc.len]
 have hlive : ∀ l, live (obj? h' l) ↔ live (obj? h l) := fun l => by
  rcases hg.2 l with e | ⟨cs, ds, hc, e1, e2⟩
  ·rw [e]
  ·rw [e1, e2]; exact Iff.rfl
 have epv : aP C.aO κ h' = aP C.aO κ h := by
  funext b off
  simp only [aP, hpv]
 refine ⟨κ, s.defers, by rw [s.len]; exact hs.len.symm, fun n hn => ?_, by rw [s.klen]; exact hg.1.symm, s.kext, fun l hl => ?_, fun l b hl hv => ?_, fun l l' b h1 h2 h3 h4 => s.apart l l' b h1 h2 ((hlive l).1 h3) ((hlive l').1 h4), fun l b h1 h2 => s.own l b h1 ((hlive l).1 h2), s.bound, s.pvold, s.oldlt, s.old, s.os, s.tape, s.output, s.size, fun b o hp => s.pvsub b o (epv ▸ hp), s.pY⟩
 ·show Rel w κ (aP C.aO κ h') _ _
  rw [epv]
  exact hs.get n (s.slot n (by have := hs.len; simp only at hn ⊢; omega))
 ·refine s.resv l ?_
  rcases hg.2 l with e | ⟨cs, ds, hc, e1, e2⟩
  ·rw [← e]; exact hl
  ·simp only at hl; rw [e1] at hl; cases hl
 ·have ho := s.obj l b hl ((hlive l).1 hv)
  show lF w κ (aP C.aO κ h') b (obj? h' l)
  rw [epv]
  rcases hg.2 l with e | ⟨cs, ds, hc, e1, e2⟩
  ·rw [e]; exact ho
  ·simp only at ho
   rw [e2] at ho
   rw [e1]
   obtain ⟨c, e, k1, k2, k3⟩ := ho
   exact ⟨c, e, k1, k2.trans hc.len.symm, fun j hj => hc.get j (k3 j (by have := hc.len; omega))⟩
section
variable {h : List AObj} {L : List (Option Nat)} {xs ys : List AV} {ls : List (Option Nat)} {os : List AObj} {l : Nat}
theorem VWs.c {x y : AV} (e : ren (mU L h.length) x = y) (hv : VWs h L xs ys) : VWs h L (x :: xs) (y :: ys) := .cons (.same e) hv
theorem VWs.c2 {x x1 y y1 : AV} (hv : VWs h L xs ys) (e : ren (mU L h.length) x = y := by rfl) (e1 : ren (mU L h.length) x1 = y1 := by rfl) : VWs h L (x :: x1 :: xs) (y :: y1 :: ys) := .c e (.c e1 hv)
theorem VWs.c4 {x x1 x2 x3 y y1 y2 y3 : AV} (hv : VWs h L xs ys) (e : ren (mU L h.length) x = y := by rfl) (e1 : ren (mU L h.length) x1 = y1 := by rfl) (e2 : ren (mU L h.length) x2 = y2 := by rfl) (e3 : ren (mU L h.length) x3 = y3 := by rfl) : VWs h L (x :: x1 :: x2 :: x3 :: xs) (y :: y1 :: y2 :: y3 :: ys) := .c2 (.c2 hv e2 e3) e e1
theorem VWs.c7 {x x1 x2 x3 x4 x5 x6 y y1 y2 y3 y4 y5 y6 : AV} (hv : VWs h L xs ys) (e : ren (mU L h.length) x = y := by rfl) (e1 : ren (mU L h.length) x1 = y1 := by rfl) (e2 : ren (mU L h.length) x2 = y2 := by rfl) (e3 : ren (mU L h.length) x3 = y3 := by rfl) (e4 : ren (mU L h.length) x4 = y4 := by rfl) (e5 : ren (mU L h.length) x5 = y5 := by rfl) (e6 : ren (mU L h.length) x6 = y6 := by rfl) : VWs h L (x :: x1 :: x2 :: x3 :: x4 :: x5 :: x6 :: xs) (y :: y1 :: y2 :: y3 :: y4 :: y5 :: y6 :: ys) := .c4 (.c2 (.c e6 hv) e4 e5) e e1 e2 e3
theorem VWs.u {y : AV} (hv : VWs h L xs ys) : VWs h L (.unk :: xs) (y :: ys) := .cons (.unk _) hv
theorem VWs.e {α : Type} {f : α → List AV} {t : Tag} {es : List α} (hr : ∀ (g : Nat → Nat) (l : List α), bq g (l.map f) = l.map f) (hv : VWs h L xs ys) : VWs h L (.slice (es.map f) .shared :: xs) (.slice (es.map f) t :: ys) := .cons (.share (hr _ _)) hv
theorem OWs.b {cs ds : List AV} (e : obj? h l = .box ds) (hc : VWs h L cs ds) (hv : OWs h L ls os) : OWs h L (some l :: ls) (.box cs :: os) := .old (by rw [e]; exact OW.ajL hc) hv
theorem OWs.t {n : Nat} (e : obj? h l = .tip n) (hv : OWs h L ls os) : OWs h L (some l :: ls) (.tip n :: os) := .old (by rw [e]; exact .tip n) hv
theorem OWs.w {o : AObj} (e : bT o = false) (hv : OWs h L ls os) : OWs h L (none :: ls) (o :: os) := .new e hv
end
theorem wk {m : Nat} {t t' : List AV} {h h' : List AObj} (L : List (Option Nat)) (ht : VWs h L t' t) (ho : OWs h L L h') (hL : okL m h.length L h' = true) : Le m t h t' h' := .of L (.mk' hL ht ho)
theorem AW.q {P : Program} {m : Nat} {x y : Code} {Q : QT} {t : List AV} {h : List AObj} (hw : ∀ K : List AV → List AObj → Prop, (∀ t h, AW P m y Q t h → K t h) → AW P m x (GI K Q) t h) : AW P m (.seq x y) Q t h := AW.dP hw
theorem sj {α : Type} {x r : α} (h : some x = some r) : x = r := Option.some.inj h
end Abs
end Go.Proofs.YtkopaeklihhdlaaGreat
namespace Go.Proofs
open Go.Shelf
def Tryz.Kn : Go.Shelf.Ren := ⟨fun | 7 => 161 | 10 => 212 | n => n, fun | 23 => 162 | 26 => 9 | 3 => 4 | 28 => 182 | 0 => 0 | 27 => 181 | 33 => 120 | 4 => 4 | n => n, fun | n => n⟩
set_option maxRecDepth 100000 in
theorem Tryz.aeC : Go.Proofs.SlLaysZ.n7 Tryz.prog Tryz.Kn := {
 mixed := by kernel_rfl
 f7 := ⟨Tryz.f161.name, by decide, Tryz.func161.trans (congrArg some (by kernel_rfl))⟩
 f10 := ⟨Tryz.f212.name, by decide, Tryz.func212.trans (congrArg some (by kernel_rfl))⟩
 t0 := Tryz.underlying0
 a0 := Tryz.isAgg0
 z0 := Tryz.sizeOf0
 v0 := Tryz.zeroValue0
 t4 := Tryz.underlying4
 a4 := Tryz.isAgg4
 z4 := Tryz.sizeOf4
 v4 := Tryz.zeroValue4
 t23 := Tryz.underlying162
 a23 := Tryz.isAgg162
 z23 := Tryz.sizeOf162
 v23 := Tryz.zeroValue162
 t26 := Tryz.underlying9
 a26 := Tryz.isAgg9
 z26 := Tryz.sizeOf9
 v26 := Tryz.zeroValue9
 t27 := Tryz.underlying181
 a27 := Tryz.isAgg181
 z27 := Tryz.sizeOf181
 v27 := Tryz.zeroValue181
 t28 := Tryz.underlying182
 a28 := Tryz.isAgg182
 z28 := Tryz.sizeOf182
 v28 := Tryz.zeroValue182
 t33 := Tryz.underlying120
 a33 := Tryz.isAgg120
 z33 := Tryz.sizeOf120
 v33 := Tryz.zeroValue120 }
def Tryz.FZ : Go.Shelf.Ren := ⟨fun | 6 => 160 | 8 => 210 | 9 => 211 | 11 => 289 | 13 => 174 | 12 => 290 | 23 => 223 | 24 => 224 | 14 => 328 | 15 => 329 | 16 => 330 | 17 => 331 | 18 => 332 | 19 => 333 | 20 => 334 | 21 => 335 | 22 => 336 | 25 => 343 | 26 => 292 | 27 => 293 | 28 => 344 | 29 => 345 | 30 => 346 | 31 => 347 | n => n, fun | 26 => 9 | 28 => 182 | 24 => 69 | 0 => 0 | 3 => 3 | 37 => 140 | 48 => 224 | 50 => 226 | 4 => 4 | 40 => 217 | 39 => 216 | 45 => 221 | 5 => 5 | 9 => 9 | 51 => 258 | 55 => 262 | 57 => 277 | 58 => 228 | 33 => 120 | n => n, fun | n => n⟩
set_option maxRecDepth 100000 in
theorem Tryz.abS : Go.Proofs.SlLaysZ.n6 Tryz.prog Tryz.FZ := {
 mixed := by kernel_rfl
 f6 := ⟨Tryz.f160.name, by decide, Tryz.func160.trans (congrArg some (by kernel_rfl))⟩
 f8 := ⟨Tryz.f210.name, by decide, Tryz.func210.trans (congrArg some (by kernel_rfl))⟩
 f11 := ⟨Tryz.f289.name, by decide, Tryz.func289.trans (congrArg some (by kernel_rfl))⟩
 t0 := Tryz.underlying0
 a0 := Tryz.isAgg0
 z0 := Tryz.sizeOf0
 v0 := Tryz.zeroValue0
 t24 := Tryz.underlying69
 a24 := Tryz.isAgg69
 z24 := Tryz.sizeOf69
 v24 := Tryz.zeroValue69
 t26 := Tryz.underlying9
 a26 := Tryz.isAgg9
 z26 := Tryz.sizeOf9
 v26 := Tryz.zeroValue9
 t28 := Tryz.underlying182
 a28 := Tryz.isAgg182
 z28 := Tryz.sizeOf182
 v28 := Tryz.zeroValue182
 i26 := by kernel_rfl }
def Tryz.X0 : Go.Shelf.Ren := ⟨fun | 6 => 211 | 8 => 174 | 9 => 290 | 19 => 223 | 20 => 224 | 21 => 328 | 22 => 329 | 23 => 330 | 24 => 331 | 25 => 332 | 26 => 333 | 27 => 334 | 28 => 335 | 29 => 336 | 36 => 343 | 31 => 292 | 32 => 293 | 37 => 344 | 38 => 345 | 39 => 346 | 41 => 347 | n => n, fun | 27 => 69 | 29 => 9 | 3 => 3 | 32 => 140 | 26 => 69 | 0 => 0 | 44 => 224 | 46 => 226 | 4 => 4 | 36 => 217 | 35 => 216 | 41 => 221 | 5 => 5 | 9 => 9 | 53 => 258 | 57 => 262 | 63 => 277 | 64 => 228 | n => n, fun | n => n⟩
set_option maxRecDepth 100000 in
theorem Tryz.Zt : Go.Proofs.SlLaysM.n6 Tryz.prog Tryz.X0 := {
 mixed := by kernel_rfl
 f6 := ⟨Tryz.f211.name, by decide, Tryz.func211.trans (congrArg some (by kernel_rfl))⟩
 f8 := Tryz.func174.trans (congrArg some (by kernel_rfl))
 f9 := ⟨Tryz.f290.name, by decide, Tryz.func290.trans (congrArg some (by kernel_rfl))⟩
 f19 := Tryz.func223.trans (congrArg some (by kernel_rfl))
 f20 := Tryz.func224.trans (congrArg some (by kernel_rfl))
 f21 := ⟨Tryz.f328.name, by decide, Tryz.func328.trans (congrArg some (by kernel_rfl))⟩
 f22 := ⟨Tryz.f329.name, by decide, Tryz.func329.trans (congrArg some (by kernel_rfl))⟩
 f23 := ⟨Tryz.f330.name, by decide, Tryz.func330.trans (congrArg some (by kernel_rfl))⟩
 f24 := ⟨Tryz.f331.name, by decide, Tryz.func331.trans (congrArg some (by kernel_rfl))⟩
 f25 := ⟨Tryz.f332.name, by decide, Tryz.func332.trans (congrArg some (by kernel_rfl))⟩
 f26 := ⟨Tryz.f333.name, by decide, Tryz.func333.trans (congrArg some (by kernel_rfl))⟩
 f27 := ⟨Tryz.f334.name, by decide, Tryz.func334.trans (congrArg some (by kernel_rfl))⟩
 f28 := ⟨Tryz.f335.name, by decide, Tryz.func335.trans (congrArg some (by kernel_rfl))⟩
 f29 := ⟨Tryz.f336.name, by decide, Tryz.func336.trans (congrArg some (by kernel_rfl))⟩
 f31 := Tryz.func292.trans (congrArg some (by kernel_rfl))
 f32 := Tryz.func293.trans (congrArg some (by kernel_rfl))
 f36 := ⟨Tryz.f343.name, by decide, Tryz.func343.trans (congrArg some (by kernel_rfl))⟩
 f37 := ⟨Tryz.f344.name, by decide, Tryz.func344.trans (congrArg some (by kernel_rfl))⟩
 f38 := ⟨Tryz.f345.name, by decide, Tryz.func345.trans (congrArg some (by kernel_rfl))⟩
 f39 := ⟨Tryz.f346.name, by decide, Tryz.func346.trans (congrArg some (by kernel_rfl))⟩
 f41 := ⟨Tryz.f347.name, by decide, Tryz.func347.trans (congrArg some (by kernel_rfl))⟩
 t0 := Tryz.underlying0
 a0 := Tryz.isAgg0
 z0 := Tryz.sizeOf0
 v0 := Tryz.zeroValue0
 t3 := Tryz.underlying3
 a3 := Tryz.isAgg3
 z3 := Tryz.sizeOf3
 v3 := Tryz.zeroValue3
 t4 := Tryz.underlying4
 a4 := Tryz.isAgg4
 z4 := Tryz.sizeOf4
 v4 := Tryz.zeroValue4
 t5 := Tryz.underlying5
 a5 := Tryz.isAgg5
 z5 := Tryz.sizeOf5
 v5 := Tryz.zeroValue5
 t9 := Tryz.underlying9
 a9 := Tryz.isAgg9
 z9 := Tryz.sizeOf9
 v9 := Tryz.zeroValue9
 t26 := Tryz.underlying69
 a26 := Tryz.isAgg69
 z26 := Tryz.sizeOf69
 v26 := Tryz.zeroValue69
 t27 := Tryz.underlying69
 a27 := Tryz.isAgg69
 z27 := Tryz.sizeOf69
 v27 := Tryz.zeroValue69
 t29 := Tryz.underlying9
 a29 := Tryz.isAgg9
 z29 := Tryz.sizeOf9
 v29 := Tryz.zeroValue9
 t32 := Tryz.underlying140
 a32 := Tryz.isAgg140
 z32 := Tryz.sizeOf140
 v32 := Tryz.zeroValue140
 t35 := Tryz.underlying216
 a35 := Tryz.isAgg216
 z35 := Tryz.sizeOf216
 v35 := Tryz.zeroValue216
 t36 := Tryz.underlying217
 a36 := Tryz.isAgg217
 z36 := Tryz.sizeOf217
 v36 := Tryz.zeroValue217
 t41 := Tryz.underlying221
 a41 := Tryz.isAgg221
 z41 := Tryz.sizeOf221
 v41 := Tryz.zeroValue221
 t44 := Tryz.underlying224
 a44 := Tryz.isAgg224
 z44 := Tryz.sizeOf224
 v44 := Tryz.zeroValue224
 t46 := Tryz.underlying226
 a46 := Tryz.isAgg226
 z46 := Tryz.sizeOf226
 v46 := Tryz.zeroValue226
 t53 := Tryz.underlying258
 a53 := Tryz.isAgg258
 z53 := Tryz.sizeOf258
 v53 := Tryz.zeroValue258
 t57 := Tryz.underlying262
 a57 := Tryz.isAgg262
 z57 := Tryz.sizeOf262
 v57 := Tryz.zeroValue262
 t63 := Tryz.underlying277
 a63 := Tryz.isAgg277
 z63 := Tryz.sizeOf277
 v63 := Tryz.zeroValue277
 t64 := Tryz.underlying228
 a64 := Tryz.isAgg228
 z64 := Tryz.sizeOf228
 v64 := Tryz.zeroValue228 }
end Go.Proofs
namespace Go.Proofs.YtkopaeklihhdlaaGreat
namespace Abs
open Go
def ad8 : Tag → List Nat
 | .tip l _ => [l]
 | .shared => []
 | .nils => []
mutual
def refs : AV → List Nat
 | .ptr l _ => [l]
 | .mapr l => [l]
 | .eptr cs => uU cs
 | .slice es t => Eo es ++ ad8 t
 | .agg cs => uU cs
 | .tup cs => uU cs
 | .func _ cs => uU cs
 | .psl l _ _ => [l]
 | .flist ns => Eo ns
 | .unk => []
 | .int _ _ => []
 | .bool _ => []
 | .str _ => []
 | .nilp => []
 | .nilFunc => []
def uU : List AV → List Nat
 | [] => []
 | c :: cs => refs c ++ uU cs
def Eo : List (List AV) → List Nat
 | [] => []
 | c :: cs => uU c ++ Eo cs
end
def Cr : AObj → List Nat
 | .box cs => uU cs
 | .mp es => es.flatMap fun p => refs p.2
 | .arr _ es => Eo es
 | .tip _ => []
 | .dead => []
 | .res => []
mutual
theorem LW {g h : Nat → Nat} : ∀ x : AV, (∀ l ∈ refs x, g (h l) = l) → ren g (ren h x) = x
 | .ptr l o, hx => by simp only [ren]; rw [hx l (by simp [refs])]
 | .mapr l, hx => by simp only [ren]; rw [hx l (by simp [refs])]
 | .eptr cs, hx => by simp only [ren]; rw [qW cs (by simpa [refs] using hx)]
 | .slice es t, hx => by
  simp only [refs, List.mem_append] at hx
  simp only [ren]; rw [AP es (fun l hl => hx l (.inl hl))]
  cases t with
  | tip l z => simp only [dx]; rw [hx l (.inr (by simp [ad8]))]
  | shared => rfl
  | nils => rfl
 | .agg cs, hx => by simp only [ren]; rw [qW cs (by simpa [refs] using hx)]
 | .tup cs, hx => by simp only [ren]; rw [qW cs (by simpa [refs] using hx)]
 | .func f cs, hx => by simp only [ren]; rw [qW cs (by simpa [refs] using hx)]
 | .psl l z n, hx => by simp only [ren]; rw [hx l (by simp [refs])]
 | .flist ns, hx => by simp only [ren]; rw [AP ns (by simpa [refs] using hx)]
 | .unk, _ => rfl
 | .int _ _, _ => rfl
 | .bool _, _ => rfl
 | .str _, _ => rfl
 | .nilp, _ => rfl
 | .nilFunc, _ => rfl
theorem qW {g h : Nat → Nat} : ∀ cs : List AV, (∀ l ∈ uU cs, g (h l) = l) → bD g (bD h cs) = cs
 | [], _ => rfl
 | c :: cs, hx => by
  simp only [uU, List.mem_append] at hx
  simp only [bD]; rw [LW c (fun l hl => hx l (.inl hl)), qW cs (fun l hl => hx l (.inr hl))]
theorem AP {g h : Nat → Nat} : ∀ es : List (List AV), (∀ l ∈ Eo es, g (h l) = l) → bq g (bq h es) = es
 | [], _ => rfl
 | c :: cs, hx => by
  simp only [Eo, List.mem_append] at hx
  simp only [bq]; rw [qW c (fun l hl => hx l (.inl hl)), AP cs (fun l hl => hx l (.inr hl))]
end
theorem QM {g h : Nat → Nat} (o : AObj) (hx : ∀ l ∈ Cr o, g (h l) = l) : bS g (bS h o) = o := by
 cases o with
 | box cs => simp only [bS]; rw [qW cs hx]
 | mp es =>
  simp only [bS, List.map_map, AObj.mp.injEq]
  simp only [Cr, List.mem_flatMap] at hx
  conv => rhs; rw [← List.map_id es]
  refine List.map_congr_left fun p hp => ?_
  simp only [Function.comp]
  rw [LW p.2 (fun l hl => hx l ⟨p, hp, hl⟩)]; rfl
 | arr z es => simp only [bS]; rw [AP es hx]
 | tip n => rfl
 | dead => rfl
 | res => rfl
def posOf : List Nat → Nat → Nat
 | [], _ => 0
 | x :: xs, l => bif Nat.beq x l then 0 else posOf xs l + 1
theorem Gx : ∀ {L : List Nat} {l : Nat}, l ∈ L → L[posOf L l]? = some l
 | x :: xs, l, h => by
  unfold posOf
  cases hb : Nat.beq x l with
  | true => have := Nat.eq_of_beq_eq_true hb; subst this; rfl
  | false =>
   simp only [cond_false, List.getElem?_cons_succ]
   refine Gx ?_
   rcases List.mem_cons.1 h with rfl | h
   ·rw [Nat.beq_refl l] at hb; cases hb
   ·exact h
def has : List Nat → Nat → Bool
 | [], _ => false
 | x :: xs, l => bif Nat.beq x l then true else has xs l
theorem Ec : ∀ {L : List Nat} {l : Nat}, has L l = true → l ∈ L
 | x :: xs, l, h => by
  unfold has at h
  cases hb : Nat.beq x l with
  | true => rw [Nat.eq_of_beq_eq_true hb]; simp
  | false => rw [hb] at h; exact List.mem_cons_of_mem _ (Ec h)
def Ej : List Nat → Bool
 | [] => true
 | x :: xs => bif has xs x then false else Ej xs
theorem has_of_mem : ∀ {L : List Nat} {l : Nat}, l ∈ L → has L l = true
 | x :: xs, l, h => by
  unfold has
  cases hb : Nat.beq x l with
  | true => rfl
  | false =>
   rcases List.mem_cons.1 h with rfl | h
   ·rw [Nat.beq_refl l] at hb; cases hb
   ·exact has_of_mem h
theorem I4 : ∀ {L : List Nat}, Ej L = true → L.Nodup
 | [], _ => List.nodup_nil
 | x :: xs, h => by
  unfold Ej at h
  cases hb : has xs x with
  | true => rw [hb] at h; cases h
  | false => rw [hb] at h; exact List.nodup_cons.2 ⟨fun hm => (by rw [has_of_mem hm] at hb; cases hb), I4 h⟩
def reach (h : List AObj) : Nat → List Nat → List Nat → List Nat
 | 0, _, seen => seen
 | _ + 1, [], seen => seen
 | n + 1, l :: todo, seen => bif has seen l then reach h n todo seen else reach h n (Cr (obj? h l) ++ todo) (seen ++ [l])
abbrev fA := Nat → List AV → List AObj → Option (AV × List AObj)
def Js (h : List AObj) (ρ ks : List Nat) (vs : List AV) : Bool :=
 Ej (ρ ++ ks) && (ρ.all (fun l => Nat.blt l h.length) && (ks.all (fun l => bT (obj? h l)) && (ρ.all (fun l => (Cr (obj? h l)).all (has ρ)) && (uU vs).all (has ρ))))
def WM (call : fA) (h : List AObj) (k fid : Nat) (vs : List AV) : Option (Nat × List Nat × List Wr × AV) :=
 let ρ := reach h 2000 (uU vs) []
 match call fid (bD (posOf ρ) vs) (ρ.map fun l => bS (posOf ρ) (obj? h l)) with
 | none => none
 | some (res, H') =>
  let ks := List.range' k (H'.length - ρ.length)
  bif Js h ρ ks vs && Nat.beq H'.length (ρ ++ ks).length then some (k + ks.length, ρ ++ ks, ow (ρ ++ ks) (H'.map (bS (nm (ρ ++ ks) h.length))), ren (nm (ρ ++ ks) h.length) res) else none
theorem acB {ρ ks : List Nat} {big l : Nat} (h : l ∈ ρ) : nm (ρ ++ ks) big (posOf ρ l) = l := by
 have := Gx h
 have hlt := (List.getElem?_eq_some_iff.1 this).1
 simp only [nm, List.getElem?_append_left hlt, this, Option.getD_some]
theorem aby {P : Program} {call : fA} (hc : ∀ f args H r, call f args H = some r → aA P f args H r.1 r.2) {s : ASt} {k fid : Nat} {vs : List AV} {k' : Nat} {ro : List Nat} {wo : List Wr} {res : AV} {dst : Option Tmp} {K : Nat → List Nat → List Wr → Prop}
  (hok : aY P fid = true) (h : WM call s.heap k fid vs = some (k', ro, wo, res)) (hK : K k' ro (wo ++ aM dst res)) : xq P fid vs dst s k K .mk := by
 unfold WM at h
 generalize hρ : reach s.heap 2000 (uU vs) [] = ρ at h
 dsimp only at h
 split at h
 ·cases h
 ·rename_i r H' hcall
  generalize hks : List.range' k (H'.length - ρ.length) = ks at h
  cases hb : (Js s.heap ρ ks vs && Nat.beq H'.length (ρ ++ ks).length) with
  | false => rw [hb] at h; cases h
  | true =>
   rw [hb] at h
   simp only [cond_true, Option.some.injEq, Prod.mk.injEq] at h
   obtain ⟨rfl, rfl, rfl, rfl⟩ := h
   simp only [Js, Bool.and_eq_true, List.all_eq_true] at hb
   obtain ⟨⟨h1, h2, h3, h4, h5⟩, h6⟩ := hb
   have hlen := Nat.eq_of_beq_eq_true h6
   refine ⟨hok, ρ, ks, bD (posOf ρ) vs, _, r, H', ⟨I4 h1, by simp, fun l hl => ?_, h3, fun i l hi => ?_⟩, hlen, ?_, hc _ _ _ _ hcall, hK⟩
   ·exact Nat.le_of_ble_eq_true (h2 l hl)
   ·have hlm := List.mem_of_getElem? hi
    have e : obj? (ρ.map fun l => bS (posOf ρ) (obj? s.heap l)) i = bS (posOf ρ) (obj? s.heap l) := by
     simp only [obj?, List.getElem?_map, hi, Option.map_some, Option.getD_some]
    rw [e, QM _ fun x hx => acB (Ec (h4 l hlm x hx))]
   ·rw [← wh, qW _ fun x hx => acB (Ec (h5 x hx))]
    exact SWs.refl _
noncomputable def adD {α β : Type} (l : List α) : Nat → α → (List α → β) → β :=
 List.rec (motive := fun _ => Nat → α → (List α → β) → β) (fun _ _ K => K []) (fun x xs ih n v K => Nat.rec (motive := fun _ => β) (K (v :: xs)) (fun m _ => ih m v fun ys => K (x :: ys)) n) l
noncomputable def J9 {α β : Type} (l : List α) : (List α → β) → β :=
 List.rec (motive := fun _ => (List α → β) → β) (fun K => K []) (fun x _ ih K => ih fun ys => K (x :: ys)) l
noncomputable def ac1 (l : List AV) : Nat → AV := List.rec (motive := fun _ => Nat → AV) (fun _ => .unk) (fun x _ ih n => Nat.rec (motive := fun _ => AV) x (fun m _ => ih m) n) l
noncomputable def KV (l : List AObj) : Nat → AObj := List.rec (motive := fun _ => Nat → AObj) (fun _ => .dead) (fun x _ ih n => Nat.rec (motive := fun _ => AObj) x (fun m _ => ih m) n) l
theorem Pk : ∀ (l : List AV) (n : Nat), ac1 l n = l.getD n .unk
 | [], _ => rfl
 | _ :: _, 0 => rfl
 | _ :: xs, n + 1 => (Pk xs n).trans (by simp [List.getD])
theorem Jt : ∀ (l : List AObj) (n : Nat), KV l n = obj? l n
 | [], _ => rfl
 | _ :: _, 0 => rfl
 | _ :: xs, n + 1 => (Jt xs n).trans (by simp [obj?])
noncomputable def Vd (t : List AV) : Operand → AV
 | .tmp n => ac1 t n
 | .const v => ofConst v
 | .func f => .func f []
 | .global _ => .unk
theorem Ze (t : List AV) : Vd t = cK t := by funext x; cases x <;> first | rfl | exact Pk _ _
noncomputable def V6 (ops : Array Oper) (t : List AV) : Option (Nat × Bool) → Option Bool
 | none => some true
 | some (j, want) => match (ops[j]?).bind (·.dst) with
  | none => none
  | some d => match ac1 t d with
   | .bool b => some (b == want)
   | .tup [] => some false
   | _ => none
theorem abO (ops : Array Oper) (t : List AV) (o : Oper) : V6 ops t o.guard = gu ops t o := by
 unfold V6 gu
 cases o.guard with
 | none => rfl
 | some p => simp only [Pk]; rfl
def aaP (P : Program) (k : Nat) (o : Oper) (ρ : Operand → AV) (σ : Nat → AObj) : Option (List Nat × List Wr) :=
 match o.op with
 | .move x => some ([], aM o.dst (ρ x))
 | .assign x => some ([], aM o.dst (ρ x))
 | .binOp op t x y _ => (EK P op t (ρ x) (ρ y)).elim none fun v => some ([], aM o.dst v)
 | _ => aZ P k o ρ σ
theorem adr (P : Program) (k : Nat) (o : Oper) (ρ : Operand → AV) (σ : Nat → AObj) : aaP P k o ρ σ = aZ P k o ρ σ := by
 unfold aaP
 split
 ·rename_i x h; simp only [aZ, h, aV]
 ·rename_i x h; simp only [aZ, h, aV]
 ·rename_i op t x y t2 h
  simp only [aZ, h, aV]
  cases EK P op t (ρ x) (ρ y) <;> rfl
 ·rfl
def aht {β : Type} (K : Nat → β) : Nat → β
 | 0 => K 0
 | n + 1 => K (n + 1)
def ajz {β : Type} (K : Int → β) : Int → β
 | .ofNat n => K (.ofNat n)
 | .negSucc n => K (.negSucc n)
def ah5 {β : Type} (K : Bool → β) : Bool → β
 | true => K true
 | false => K false
noncomputable def fVS {β : Type} (K : AV → β) : AV → β
 | .agg cs => J9 cs fun cs => K (.agg cs)
 | .eptr cs => J9 cs fun cs => K (.eptr cs)
 | .tup cs => J9 cs fun cs => K (.tup cs)
 | .func f cs => J9 cs fun cs => K (.func f cs)
 | .int k n => ajz (fun n => K (.int k n)) n
 | .bool b => ah5 (fun b => K (.bool b)) b
 | .str s => J9 s fun s => K (.str s)
 | .slice es t => J9 es fun es => K (.slice es t)
 | .unk => K .unk
 | .nilp => K .nilp
 | .ptr l o => K (.ptr l o)
 | .mapr l => K (.mapr l)
 | .nilFunc => K .nilFunc
 | .psl l z n => K (.psl l z n)
 | .flist ns => K (.flist ns)
noncomputable def fOS {β : Type} (K : AObj → β) : AObj → β
 | .box cs => J9 cs fun cs => K (.box cs)
 | .tip n => K (.tip n)
 | .mp es => J9 es fun es => K (.mp es)
 | .dead => K .dead
 | .res => K .res
 | .arr z es => J9 es fun es => K (.arr z es)
noncomputable def Rc {β : Type} : List Wr → List AV → List AObj → (List AV → List AObj → β) → β
 | [], t, h, K => K t h
 | .slot n v :: ws, t, h, K => fVS (fun v => adD t n v fun t => Rc ws t h K) v
 | .obj n o :: ws, t, h, K => fOS (fun o => adD h n o fun h => Rc ws t h K) o
theorem P6 {α β : Type} : ∀ (l : List α) (n : Nat) (v : α) (K : List α → β), adD l n v K = K (l.set n v)
 | [], _, _, _ => rfl
 | _ :: _, 0, _, _ => rfl
 | x :: xs, n + 1, v, K => (P6 xs n v fun ys => K (x :: ys)).trans rfl
theorem UW {α β : Type} : ∀ (l : List α) (K : List α → β), J9 l K = K l
 | [], _ => rfl
 | x :: xs, K => UW xs fun ys => K (x :: ys)
theorem afi {β : Type} (K : Nat → β) (n : Nat) : aht K n = K n := by cases n <;> rfl
theorem agv {β : Type} (K : AV → β) (v : AV) : fVS K v = K v := by
 cases v <;> simp only [fVS, UW]
 ·rename_i k n; cases n <;> rfl
 ·rename_i b; cases b <;> rfl
theorem agu {β : Type} (K : AObj → β) (o : AObj) : fOS K o = K o := by cases o <;> simp only [fOS, UW]
theorem I8 {β : Type} : ∀ (ws : List Wr) (t : List AV) (h : List AObj) (K : List AV → List AObj → β), Rc ws t h K = K (ASt.wr ⟨t, h⟩ ws).tmps (ASt.wr ⟨t, h⟩ ws).heap
 | [], _, _, _ => rfl
 | .slot n v :: ws, t, h, K => by simp only [Rc, agv, P6]; rw [I8 ws]; rfl
 | .obj n v :: ws, t, h, K => by simp only [Rc, agu, P6]; rw [I8 ws]; rfl
def need (big : List Nat) : List Oper → Nat
 | [] => 0
 | o :: l => (match jR o.op with
  | some (.func f, _) => (bif has big f then 40 else 3)
  | some _ => 3
  | none => iw o.op) + need big l
noncomputable def adO (P : Program) (call : fA) (ok : Nat → Bool) (ops : Array Oper) (o : Oper) (go : Nat → List Eff → List AV → List AObj → Option (List Eff × ASt)) (k : Nat) (es : List Eff) (t : List AV) (h : List AObj) : Option (List Eff × ASt) :=
 match V6 ops t o.guard with
  | none => none
  | some false => Rc (aM o.dst (.tup [])) t h (go k (⟨bI ops o, [], aM o.dst (.tup [])⟩ :: es))
  | some true => match jR o.op with
   | some (f, args) => match Vd t f with
    | .func fid caps => bif ok fid then (match WM call h k fid (args.toList.map (Vd t) ++ caps) with
     | some (k', ro, wo, res) => Rc (wo ++ aM o.dst res) t h (go k' (⟨bI ops o, ro, wo ++ aM o.dst res⟩ :: es))
     | none => none) else none
    | _ => none
   | none => match aaP P k o (Vd t) (KV h) with
    | some (rd, ws) => Rc ws t h (go (k + iw o.op) (⟨bI ops o, rd, ws⟩ :: es))
    | none => none
noncomputable def aag (P : Program) (call : fA) (ok : Nat → Bool) (ops : Array Oper) (l : List Oper) : Nat → List Eff → List AV → List AObj → Option (List Eff × ASt) :=
 List.rec (motive := fun _ => Nat → List Eff → List AV → List AObj → Option (List Eff × ASt)) (fun _ es t h => some (es.reverse, ⟨t, h⟩)) (fun o _ ih => adO P call ok ops o ih) l
theorem abB (P : Program) (call : fA) (ok : Nat → Bool) (ops : Array Oper) (o : Oper) (l : List Oper) (k : Nat) (es : List Eff) (t : List AV) (h : List AObj) : aag P call ok ops (o :: l) k es t h = adO P call ok ops o (aag P call ok ops l) k es t h := rfl
theorem Zb {P : Program} {call : fA} {ok : Nat → Bool} {ops : Array Oper} (hc : ∀ f args H r, call f args H = some r → aA P f args H r.1 r.2) (hok : ∀ f, ok f = true → aY P f = true) {K : List Eff → ASt → Prop} :
  ∀ (l : List Oper) (k : Nat) (es : List Eff) (s : ASt) (es' : List Eff) (s' : ASt), aag P call ok ops l k es s.tmps s.heap = some (es', s') → K es' s' → sW P ops l k es s K := by
 intro l
 induction l with
 | nil =>
  intro k es s es' s' h hK
  have h : some (es.reverse, s) = some (es', s') := h
  simp only [Option.some.injEq, Prod.mk.injEq] at h
  obtain ⟨rfl, rfl⟩ := h
  exact hK
 | cons o l ih =>
  intro k es s es' s' h hK
  rw [abB] at h
  unfold adO at h
  rw [abO, Ze, show KV s.heap = obj? s.heap from funext (Jt _), adr] at h
  split at h
  ·cases h
  ·rename_i hw
   rw [I8] at h
   exact ⟨false, hw, fun e => (by cases e), fun _ => ih _ _ _ _ _ h hK⟩
  ·rename_i hw
   refine ⟨true, hw, fun _ => ?_, fun e => (by cases e)⟩
   split at h
   ·rename_i f args hcall
    split at h
    ·rename_i fid caps hf
     cases hb : ok fid with
     | false => rw [hb] at h; cases h
     | true =>
      rw [hb] at h
      simp only [cond_true] at h
      split at h
      ·rename_i k' ro wo res hen
       rw [hcall]
       rw [I8] at h
       exact ⟨fid, caps, hf, aby hc (hok _ hb) hen (ih _ _ _ _ _ h hK)⟩
      ·cases h
    ·cases h
   ·rename_i hcall
    rw [hcall]
    split at h
    ·rename_i rd ws hh
     rw [I8] at h
     exact ⟨rd, ws, hh, ih _ _ _ _ _ h hK⟩
    ·cases h
def Ut (o : AObj) : List AObj → List AObj
 | [] => bif bT o then [] else [o]
 | x :: xs => o :: x :: xs
noncomputable def trim (l : List AObj) : List AObj := List.rec (motive := fun _ => List AObj) [] (fun o _ ih => Ut o ih) l
theorem Q5 : ∀ H : List AObj, ∃ n, H = trim H ++ List.replicate n .res
 | [] => ⟨0, rfl⟩
 | o :: os => by
  obtain ⟨n, hn⟩ := Q5 os
  show ∃ n, o :: os = Ut o (trim os) ++ List.replicate n .res
  unfold Ut
  split
  ·rename_i e
   rw [e] at hn
   cases ho : bT o with
   | true =>
    have : o = .res := by cases o <;> simp [bT] at ho ⊢
    subst this
    exact ⟨n + 1, by rw [hn]; rfl⟩
   | false => exact ⟨n, by rw [hn]; rfl⟩
  ·rename_i x xs e
   rw [e] at hn
   exact ⟨n, by rw [hn]; rfl⟩
theorem Sim.trim {C : Ctx} {κ : bA} {s : ASt} {a : Act} {w : World} (h : Sim C κ s a w) : ∃ κ', Sim C κ' { s with heap := Abs.trim s.heap } a w := by
 obtain ⟨n, hn⟩ := Q5 s.heap
 generalize Abs.trim s.heap = H at hn
 have hat : ∀ l, at? (κ.take H.length) l = at? κ l := fun l => by
  by_cases hl : l < H.length
  ·unfold at?; rw [List.getElem?_take, if_pos hl]
  ·have e1 : at? (κ.take H.length) l = none := at?_none_of_le (by simp; omega)
   rw [e1]
   by_cases h2 : l < s.heap.length
   ·refine (h.resv l ?_).symm
    simp only [obj?, hn]
    rw [List.getElem?_append_right (by omega), List.getElem?_replicate]
    rw [hn, List.length_append, List.length_replicate] at h2
    rw [if_pos (by omega)]; rfl
   ·exact (at?_none_of_le (by rw [h.klen]; omega)).symm
 have hob : ∀ l b, at? κ l = some b → obj? H l = obj? s.heap l := fun l b hb => by
  by_cases hl : l < H.length
  ·simp only [obj?, hn, List.getElem?_append_left hl]
  ·rw [← hat, at?_none_of_le (by simp; omega)] at hb; cases hb
 refine ⟨κ.take H.length, ?_⟩
 refine h.step (κ' := κ.take H.length) (H' := H) (Evo.refl _ _) (fun l b hb => by rw [hat]; exact hb) (by rw [List.length_take, h.klen, hn]; simp) ?_ ?_ ?_ ?_ ?_ (fun _ _ => rfl) rfl rfl rfl
 ·rintro b o (hb | ⟨l, h1, h2⟩) _
  ·exact .inl hb
  ·rw [hat] at h1; rw [hob l b h1] at h2; exact .inr ⟨l, h1, h2⟩
 ·intro l b h1 h2
  rw [hat] at h1
  exact .inl ⟨h1, hob l b h1, rfl⟩
 ·intro l l' b h1 h2 h3 h4
  rw [hat] at h1 h2; rw [hob l b h1] at h3; rw [hob l' b h2] at h4
  exact h.apart l l' b h1 h2 h3 h4
 ·intro l b h1; rw [hat] at h1; exact h.bound l b h1
 ·intro l h1
  rw [hat]
  by_cases hl : l < H.length
  ·refine h.resv l ?_
   rw [← h1]; simp only [obj?, hn, List.getElem?_append_left hl]
  ·rw [← hat]; exact at?_none_of_le (by simp; omega)
def Nj (hint : List (Nat × Nat × Nat)) (h : List AObj) (l : Nat) : List AObj :=
 match obj? h l with
 | .box cs => match hint.find? (fun p => Nat.beq p.1 cs.length) with
  | some (_, i, z) => (match cs[i]? with
   | some (.slice [] .nils) => h.set l (.box (cs.set i (.psl h.length z 0))) ++ [.arr z []]
   | _ => h)
  | none => h
 | _ => h
theorem Sim.Nj {C : Ctx} {κ : bA} {s : ASt} {a : Act} {w : World} (h : Sim C κ s a w) (hint : List (Nat × Nat × Nat)) (l : Nat) : ∃ κ', Sim C κ' { s with heap := Abs.Nj hint s.heap l } a w := by
 unfold Abs.Nj
 split
 ·rename_i cs ho
  split
  ·rename_i i z _
   split
   ·rename_i hi
    have hll : l < s.heap.length := by
     apply Classical.byContradiction; intro hn
     simp only [obj?, List.getElem?_eq_none (Nat.le_of_not_lt hn)] at ho; cases ho
    let H' := s.heap.set l (.box (cs.set i (.psl s.heap.length z 0))) ++ [AObj.arr z []]
    have hat : ∀ x, at? (κ ++ [none]) x = at? κ x := fun x => by
     unfold at?
     by_cases hx : x < κ.length
     ·rw [List.getElem?_append_left hx]
     ·rw [List.getElem?_append_right (Nat.le_of_not_lt hx), List.getElem?_eq_none (Nat.le_of_not_lt hx)]
      cases hxx : x - κ.length <;> rfl
    have hlt : ∀ x b, at? κ x = some b → x < s.heap.length := fun x b hb => by rw [← h.klen]; exact lt_of_at? hb
    have hob : ∀ x, x < s.heap.length → x ≠ l → obj? H' x = obj? s.heap x := fun x hx hne => by
     simp only [obj?, H', List.getElem?_append_left (show x < (s.heap.set l _).length by simpa using hx), List.getElem?_set_ne (Ne.symm hne)]
    have hol : obj? H' l = .box (cs.set i (.psl s.heap.length z 0)) := by
     simp only [obj?, H', List.getElem?_append_left (show l < (s.heap.set l _).length by simpa using hll), List.getElem?_set_self hll, Option.getD_some]
    have hlv : ∀ x b, at? κ x = some b → live (obj? H' x) → live (obj? s.heap x) := fun x b hb hl => by
     by_cases e : x = l
     ·subst e; rw [ho]; trivial
     ·rw [hob x (hlt x b hb) e] at hl; exact hl
    have hp : ∀ b o, aP C.aO (κ ++ [none]) H' b o → b < w.heap.size → aP C.aO κ s.heap b o := by
     rintro b o (hb | ⟨x, h1, h2⟩) _
     ·exact .inl hb
     ·rw [hat] at h1
      refine .inr ⟨x, h1, ?_⟩
      by_cases e : x = l
      ·subst e; rw [ho]; trivial
      ·rw [hob x (hlt x b h1) e] at h2; exact h2
    refine ⟨κ ++ [none], ?_⟩
    refine h.step (κ' := κ ++ [none]) (H' := H') (Evo.refl _ _) (fun x b hb => by rw [hat]; exact hb) (by simp [H', h.klen]) hp ?_ ?_ ?_ ?_ (fun _ _ => rfl) rfl rfl rfl
    ·intro x b h1 h2
     rw [hat] at h1
     by_cases e : x = l
     ·subst e
      refine .inr ⟨h.bound x b h1, h.own x b h1 (by rw [ho]; trivial), ?_⟩
      rw [hol]
      have hr := h.obj x b h1 (by rw [ho]; trivial)
      rw [ho] at hr
      obtain ⟨c, el, g1, g2, g3⟩ := hr
      refine ⟨c, el, g1, by simp [g2], fun j hj => ?_⟩
      simp only [List.length_set] at hj
      have hg := (g3 j hj).mono (κ' := κ ++ [none]) (Evo.refl _ _) (fun y b hb => by rw [hat]; exact hb) hp
      by_cases ej : i = j
      ·subst ej
       rw [gY hj]
       rw [List.getD, hi, Option.getD_some] at hg
       generalize c.getD i undef = u at hg
       cases hg with
       | slice b' off sz y q1 q2 q3 q3' q4 q5 q6 gt => exact .psl (Nat.zero_le _) (by omega) ⟨rfl, .inl gt⟩
      ·rw [jN ej]; exact hg
     ·exact .inl ⟨h1, hob x (hlt x b h1) e, rfl⟩
    ·intro x y b h1 h2 h3 h4
     rw [hat] at h1 h2
     exact h.apart x y b h1 h2 (hlv x b h1 h3) (hlv y b h2 h4)
    ·intro x b h1; rw [hat] at h1; exact h.bound x b h1
    ·intro x h1
     rw [hat]
     by_cases hx : x < s.heap.length
     ·by_cases e : x = l
      ·subst e; rw [hol] at h1; cases h1
      ·rw [hob x hx e] at h1; exact h.resv x h1
     ·exact at?_none_of_le (by rw [h.klen]; omega)
   ·exact ⟨κ, h⟩
  ·exact ⟨κ, h⟩
 ·exact ⟨κ, h⟩
def Fa (hint : List (Nat × Nat × Nat)) : List Nat → List AObj → List AObj
 | [], h => h
 | l :: ls, h => Fa hint ls (Nj hint h l)
theorem Sim.Fa {C : Ctx} {a : Act} {w : World} (hint : List (Nat × Nat × Nat)) : ∀ (ls : List Nat) {κ : bA} {s : ASt}, Sim C κ s a w → ∃ κ', Sim C κ' { s with heap := Abs.Fa hint ls s.heap } a w
 | [], κ, s, h => ⟨κ, h⟩
 | l :: ls, κ, s, h => by
  obtain ⟨κ1, h1⟩ := h.Nj hint l
  exact Sim.Fa hint ls h1
noncomputable def tidy (hint : List (Nat × Nat × Nat)) (n : Nat) (s : ASt) : ASt :=
 let h := trim s.heap
 ⟨s.tmps, Fa hint (List.range' n (h.length - n)) h⟩
theorem bX.tidy {P : Program} {c : Code} {Q : Exit → ASt → Prop} {s : ASt} (hint : List (Nat × Nat × Nat)) (n : Nat) (h : bX P c (fun e s' => Q e (Abs.tidy hint n s')) s) : bX P c Q s := fun C κ a w hs =>
 wp_mono (h C κ a w hs) fun _ _ _ ⟨s', κ', h1, h2⟩ => by
  obtain ⟨κ1, g1⟩ := h2.trim
  obtain ⟨κ2, g2⟩ := g1.Fa hint (List.range' n ((Abs.trim s'.heap).length - n))
  exact ⟨_, κ2, h1, g2⟩
noncomputable def NV (P : Program) (call : fA) (ok : Nat → Bool) (hint : List (Nat × Nat × Nat)) (big : List Nat) (go : Code → ASt → Option (Exit × ASt)) (c : Code) (s : ASt) : Option (Exit × ASt) :=
 match c with
  | .skip => some (.normal, s)
  | .ret => some (.ret, s)
  | .exit id => some (.exit id, s)
  | .seq x y => match go x s with
   | some (.normal, s') => go y s'
   | r => r
  | .cond c x y => match Vd s.tmps c with
   | .bool true => go x s
   | .bool false => go y s
   | _ => none
  | .block id c => match go c s with
   | some (.exit id', s') => bif Nat.beq id' id then some (.normal, s') else some (.exit id', s')
   | r => r
  | .loop c => match go c s with
   | some (.normal, s') => go (.loop c) s'
   | r => r
  | .region _ ops draw => aht (fun m => match aag P call ok ops ops.toList s.heap.length [] s.tmps (s.heap ++ List.replicate m .res) with
   | some (es, s') => bif !draw || oL ops.toList es then some (.normal, bif Nat.beq m 0 then s' else tidy hint s.heap.length s') else none
   | none => none) (need big ops.toList)
  | _ => none
noncomputable def FT (P : Program) (call : fA) (ok : Nat → Bool) (hint : List (Nat × Nat × Nat)) (big : List Nat) (n : Nat) : Code → ASt → Option (Exit × ASt) :=
 Nat.rec (motive := fun _ => Code → ASt → Option (Exit × ASt)) (fun _ _ => none) (fun _ ih => NV P call ok hint big ih) n
theorem Nq (P : Program) (call : fA) (ok : Nat → Bool) (hint : List (Nat × Nat × Nat)) (big : List Nat) (c : Code) (s : ASt) : FT P call ok hint big 0 c s = none := rfl
theorem MH (P : Program) (call : fA) (ok : Nat → Bool) (hint : List (Nat × Nat × Nat)) (big : List Nat) (n : Nat) (c : Code) (s : ASt) : FT P call ok hint big (n + 1) c s = NV P call ok hint big (FT P call ok hint big n) c s := rfl
theorem Mq {P : Program} {call : fA} {ok : Nat → Bool} {hint : List (Nat × Nat × Nat)} {big : List Nat} (hm : P.follows .mixedOrders = true) (hc : ∀ f args H r, call f args H = some r → aA P f args H r.1 r.2) (hok : ∀ f, ok f = true → aY P f = true) :
  ∀ (n : Nat) (c : Code) (s : ASt) (e : Exit) (s' : ASt) (Q : Exit → ASt → Prop), FT P call ok hint big n c s = some (e, s') → Q e s' → bX P c Q s := by
 intro n
 induction n using Nat.strongRecOn with
 | _ n ih =>
  intro c s e s' Q h hQ
  cases n with
  | zero => rw [Nq] at h; cases h
  | succ n =>
   have ih1 := ih n (Nat.lt_succ_self n)
   rw [MH] at h
   have h0 := h
   unfold NV at h
   rw [Ze] at h
   split at h
   ·cases h; exact .skip hQ
   ·cases h; exact .ret hQ
   ·cases h; exact .exit hQ
   ·rename_i x y
    split at h
    ·rename_i s1 hx
     exact .seq (ih1 _ _ _ _ _ hx (ih1 _ _ _ _ _ h hQ))
    ·rename_i hne
     refine .seq (ih1 _ _ _ _ _ h ?_)
     cases e with
     | normal => exact (hne _ h).elim
     | exit id => exact hQ
     | goto l => exact hQ
     | ret => exact hQ
     | panic c => exact hQ
     | outgrown => exact hQ
   ·rename_i cd x y
    split at h
    ·rename_i hb
     exact .cond hb (fun _ => ih1 _ _ _ _ _ h hQ) (fun e => by cases e)
    ·rename_i hb
     exact .cond hb (fun e => by cases e) (fun _ => ih1 _ _ _ _ _ h hQ)
    ·cases h
   ·rename_i id c
    split at h
    ·rename_i id' s1 hx
     refine .block (ih1 _ _ _ _ _ hx ?_)
     simp only [tL]
     cases hb : Nat.beq id' id with
     | true =>
      rw [hb] at h; cases h
      rw [if_pos (Nat.eq_of_beq_eq_true hb)]; exact hQ
     | false =>
      rw [hb] at h; cases h
      rw [if_neg (fun e => by rw [e, Nat.beq_refl id] at hb; cases hb)]; exact hQ
    ·rename_i hne
     refine .block (ih1 _ _ _ _ _ h ?_)
     cases e with
     | exit id => exact (hne _ _ h).elim
     | normal => exact hQ
     | goto l => exact hQ
     | ret => exact hQ
     | panic c => exact hQ
     | outgrown => exact hQ
   ·rename_i c
    refine bX.loop (fun m s => m ≤ n + 1 ∧ FT P call ok hint big m (.loop c) s = some (e, s')) (n := n + 1) ⟨Nat.le_refl _, h0⟩ ?_
    rintro m s ⟨hle, hr⟩
    cases m with
    | zero => rw [Nq] at hr; cases hr
    | succ m =>
     have ih2 := ih m (by omega)
     rw [MH] at hr
     unfold NV at hr
     dsimp only at hr
     split at hr
     ·rename_i s1 hx
      exact ih2 _ _ _ _ _ hx ⟨m, Nat.lt_succ_self m, by omega, hr⟩
     ·rename_i hne
      refine ih2 _ _ _ _ _ hr ?_
      cases e with
      | normal => exact (hne _ hr).elim
      | exit id => exact hQ
      | goto l => exact hQ
      | ret => exact hQ
      | panic c => exact hQ
      | outgrown => exact hQ
   ·rename_i id ops draw
    rw [afi] at h
    generalize need big ops.toList = m at h
    split at h
    ·rename_i es s1 hx
     cases hb : (!draw || oL ops.toList es) with
     | false => rw [hb] at h; cases h
     | true =>
      rw [hb] at h
      simp only [cond_true, Option.some.injEq, Prod.mk.injEq] at h
      obtain ⟨rfl, hs1⟩ := h
      have key : ∀ Q' : Exit → ASt → Prop, Q' .normal s1 → bX P (.region id ops draw) Q' s := fun Q' hQ' => by
       have eops : ops = ops.toList.toArray := by simp
       rw [eops] at hx ⊢
       simp only [List.toList_toArray] at hx
       cases draw with
       | true => exact bX.ag3 m hm (Zb hc hok _ _ _ (s.reserve m) _ _ hx ⟨by simpa using hb, hQ'⟩)
       | false =>
        have := Zb (K := fun _ s' => Q' .normal s') hc hok _ _ _ (s.reserve m) _ _ hx hQ'
        obtain ⟨es', s2, g1, g2⟩ := Kh _ _ _ _ _ this
        exact bX.region m g1.steps g2
      cases hm0 : Nat.beq m 0 with
      | true => rw [hm0] at hs1; simp only [cond_true] at hs1; subst hs1; exact key Q hQ
      | false =>
       rw [hm0] at hs1; simp only [cond_false] at hs1; subst hs1
       exact bX.tidy hint s.heap.length (key _ hQ)
    ·cases h
   ·cases h
def zS (P : Program) (rs : List ResultVar) (m : Nat) (s : ASt) : Option (AV × List AObj) :=
 match vI P s rs with
 | none => none
 | some xs =>
  let v := xA false xs
  let L := reach s.heap 2000 (refs v ++ (List.range m).flatMap fun l => Cr (obj? s.heap l)) (List.range m)
  bif Ej L && ((List.range m).all (fun i => match L[i]? with | some l => Nat.beq l i | none => false) && (L.all (fun l => Nat.blt l s.heap.length) && ((refs v).all (has L) && L.all (fun l => (Cr (obj? s.heap l)).all (has L)))))
  then some (ren (posOf L) v, L.map fun l => bS (posOf L) (obj? s.heap l)) else none
theorem Cz {P : Program} {rs : List ResultVar} {H : List AObj} {s : ASt} {res : AV} {H' : List AObj} (h : zS P rs H.length s = some (res, H')) : ∃ L, wD P rs false L H res H' s := by
 unfold zS at h
 split at h
 ·cases h
 ·rename_i xs hxs
  dsimp only at h
  generalize reach s.heap 2000 (refs (xA false xs) ++ (List.range H.length).flatMap fun l => Cr (obj? s.heap l)) (List.range H.length) = L at h
  cases hb : (Ej L && ((List.range H.length).all (fun i => match L[i]? with | some l => Nat.beq l i | none => false) && (L.all (fun l => Nat.blt l s.heap.length) && ((refs (xA false xs)).all (has L) && L.all (fun l => (Cr (obj? s.heap l)).all (has L)))))) with
  | false => rw [hb] at h; cases h
  | true =>
   rw [hb] at h
   simp only [cond_true, Option.some.injEq, Prod.mk.injEq] at h
   obtain ⟨rfl, rfl⟩ := h
   simp only [Bool.and_eq_true, List.all_eq_true, List.mem_range] at hb
   obtain ⟨h1, h2, h3, h4, h5⟩ := hb
   have hL : ∀ i, i < H.length → L[i]? = some i := fun i hi => by
    have := h2 i hi
    split at this
    ·rename_i l hl; rw [hl, Nat.eq_of_beq_eq_true this]
    ·cases this
   have hnm : ∀ l, l ∈ L → nm L s.heap.length (posOf L l) = l := fun l hl => by simp only [nm, Gx hl, Option.getD_some]
   refine ⟨L, xs, hxs, ?_, I4 h1, by simp, ?_, hL, fun l hl => ?_, fun i l hi => ?_⟩
   ·rw [LW _ fun x hx => hnm x (Ec (h4 x hx))]
   ·cases hn : H.length with
    | zero => exact Nat.zero_le _
    | succ n => have := (List.getElem?_eq_some_iff.1 (hL n (by omega))).1; omega
   ·exact Nat.le_of_ble_eq_true (h3 l hl)
   ·have e : obj? (L.map fun l => bS (posOf L) (obj? s.heap l)) i = bS (posOf L) (obj? s.heap l) := by
     simp only [obj?, List.getElem?_map, hi, Option.map_some, Option.getD_some]
    rw [e, QM _ fun x hx => hnm x (Ec (h5 l (List.mem_of_getElem? hi) x hx))]
end Abs
end Go.Proofs.YtkopaeklihhdlaaGreat
namespace Go.Proofs.YtkopaeklihhdlaaGreat
namespace Abs
open Go Go.Proofs Go.RowKit Go.Maps Go.Sort Go.Shelf
theorem adP (m : Nat) : AnyZ.SortsIn Tryz.prog Tryz.FZ Fence.wide m :=
 ⟨fun blk off cap ss W hH hblk hsz => callsIn_wide.2 (AnyM.slices_Sort_string Tryz.Zt blk off cap ss W hH hblk hsz),
  fun p cap W => callsIn_wide.2 (AnyM.slices_Sort_string_none Tryz.Zt p cap W)⟩
set_option maxHeartbeats 1000000 in
theorem Z0 (b bm nn : Nat) (D0 : DataW Unit) (R : Value → Option (DataW Unit × List MemPlace)) (w : World) (hbm : bm < w.heap.size) (hc : w.cell? ⟨bm, 0, none⟩ = some (.map (some b))) (hown : w.ownsMap Tryz.prog 9 R b nn D0) (hmax : Maps.size D0 ≤ maxLen) (hbytes : Maps.size D0 * 16 ≤ 140737488355328) :
  CallsIn Fence.wide 5 Tryz.prog 160 #[.func (.func 212) #[] #[.pointer (some ⟨bm, 0, none⟩)]] w fun e w' => ∃ (v : Value) (ss : List (List UInt8)), e = .returned v ∧ ss.Perm (strKeys D0) ∧
   w'.ownsRow w.heap.size 9 1 v ss.length ((ss.mergeSort (fun x y => decide (x ≤ y))).map encStr) ∧ (v = .slice none 0 0 ↔ ss = []) ∧ Below w.heap.size w w' := by
 have hseq : SeqGives Fence.wide 2 Tryz.prog 212 #[.pointer (some ⟨bm, 0, none⟩)] encStr (fun ss => ss.Perm (strKeys D0)) (Maps.size D0) w :=
  AnyZ.keys_gives (ρ := Tryz.Kn) { Tryz.aeC with } Fence.wide _ trivial rfl (by omega) bm b nn D0 _ hbm hc hown
 exact AnyZ.sorted_in Tryz.abS Fence.wide 5 trivial trivial trivial trivial rfl (by omega) (adP _) (enters_of Tryz.func211 (by kernel_rfl) rfl) 212 #[.pointer (some ⟨bm, 0, none⟩)] trivial (enters_of Tryz.func212 (by kernel_rfl) rfl) _ _ hmax hbytes _ hseq
theorem Leave.same {κ : bA} {aO : bN} {H : List AObj} {w w' : World} (he : Entry κ aO H w) (hb : Go.RowKit.Below w.heap.size w w') : Leave κ κ aO H H w w' := by
 have hcell : ∀ b off u, w.cell? ⟨b, off, none⟩ = some u → w'.cell? ⟨b, off, none⟩ = some u := fun b off u hc => by
  have hlt := lt_of_cell hc
  simp only [World.cell?, hb.block b hlt] at hc ⊢
  exact hc
 have hevo : Evo (aP aO κ H) w w' := ⟨hb.size, fun b off u _ hc => hcell b off u hc, fun b c e z hx => ⟨c, by rw [hb.block b (Array.getElem?_eq_some_iff.1 hx).1]; exact hx, rfl⟩⟩
 exact ⟨he.klen, Nat.le_refl _, cZ.refl _, he.resv, fun l b h1 h2 => (he.obj l b h1 h2).mono (hb.block b (he.bound l b h1)) hevo (cZ.refl _) (fun _ _ h _ => h),
  fun l b h1 h2 => .inr ⟨l, h1, h2⟩, he.apart, fun l b h1 => Nat.lt_of_lt_of_le (he.bound l b h1) hb.size, fun b hlt _ => hb.block b hlt, hevo, fun _ _ h _ => h, hb.os, hb.tape, hb.output⟩
theorem YZ {κ : bA} {aO : bN} {H : List AObj} {w : World} (he : Entry κ aO H w) {b o : Nat} (h : aP aO κ H b o) : b < w.heap.size := by
 rcases h with h | ⟨l, h1, _⟩
 ·exact he.pvlt b o h
 ·exact he.bound l b h1
theorem IG (H : List AObj) (p m : Nat) (es : List (List UInt8 × AV)) (hp : obj? H p = .box [.mapr m]) (hm : obj? H m = .mp es) (hb16 : es.length * 16 ≤ 140737488355328) :
  aA Tryz.prog 160 [.func 212 [.ptr p 0]] H (.slice (((es.map (·.1)).mergeSort F5).map encS) .shared) H := by
 intro κ aO w vs hen hlen hr
 have h0 := hr 0 (by simp)
 match vs, hlen with
 | [v], _ =>
 simp only [List.getD, List.getElem?_cons_zero, Option.getD_some] at h0
 obtain ⟨cs, rfl, hcl, hcr⟩ := h0.Bn
 match cs, hcl with
 | [cp], _ =>
 have h1 := hcr 0 (by simp)
 simp only [List.getD, List.getElem?_cons_zero, Option.getD_some] at h1
 obtain ⟨bm, rfl, hbm⟩ := h1.oI
 have ho := hen.obj p bm hbm (by rw [hp]; trivial)
 rw [hp] at ho
 obtain ⟨c, el, g1, g2, g3⟩ := ho
 have h2 := g3 0 (by simp)
 simp only [List.getD, List.getElem?_cons_zero, Option.getD_some] at h2
 have hcell : w.cell? ⟨bm, 0, none⟩ = some (c.getD 0 undef) := by
  have : 0 < c.size := by rw [g2]; simp
  simp [World.cell?, g1, Array.getD, this]
 generalize c.getD 0 undef = cv at h2 hcell
 cases h2 with
 | @mapr _ b hb =>
 have hmo := hen.obj m b hb (by rw [hm]; trivial)
 rw [hm] at hmo
 obtain ⟨ms, clock, k1, k2, k3, k4⟩ := hmo
 have k31 : es.length ≤ 140737488355328 := by have := k3.1; rwa [List.length_map] at this
 have hk9 : Tryz.prog.underlying 9 = some .string := by kernel_rfl
 let R : Value → Option (DataW Unit × List MemPlace) := fun _ => some (.lit (.bool true), [])
 have hkeys : ∀ j, (hj : j < ms.size) → keyOf Tryz.prog 9 ms[j].key = some (.string (es.getD j ([], .unk)).1) := fun j hj => by
  have h5 := (k4 j (by omega)).1
  have e : ms.getD j default = ms[j] := by simp [Array.getD, hj]
  rw [e] at h5
  rw [h5, Go.WideMaps.keyOf_string_mk hk9]
  have hmem : (es.getD j ([], .unk)).1 ∈ es.map (·.1) := by
   have hj' : j < es.length := by omega
   rw [List.getD, List.getElem?_eq_getElem hj', Option.getD_some]
   exact List.mem_map.2 ⟨_, List.getElem_mem _, rfl⟩
  have := k3.2.2 _ hmem
  simpa [ByteArray.size, maxLen] using this
 have hrd : ∀ j, (hj : j < ms.size) → WideElems.rd Tryz.prog 9 R ms[j] = some (.string (es.getD j ([], .unk)).1, .lit (.bool true)) := fun j hj => by
  simp only [WideElems.rd, hkeys j hj, Option.bind_some, R, Option.map_some]
 have hown : w.ownsMap Tryz.prog 9 R b es.length (.map ((ms.toList.map (WideElems.rg Tryz.prog 9 R)).foldr DataW.insert [])) := by
  refine ⟨ms, clock, k1, ⟨?_, k3.2.1, fun x hx => ?_⟩, by omega, rfl⟩
  ·simp only [maxLen]; omega
  ·obtain ⟨j, hj, rfl⟩ := List.getElem_of_mem hx
   simp only [Array.length_toList] at hj
   exact ⟨_, by simpa using hrd j hj⟩
 have hperm : (strKeys (.map ((ms.toList.map (WideElems.rg Tryz.prog 9 R)).foldr DataW.insert []))).Perm (es.map (·.1)) := by
  simp only [strKeys]
  refine ((WideShapes.sorted_perm _).map _).trans ?_
  have e : (ms.toList.map (WideElems.rg Tryz.prog 9 R)).map (fun p => strOf p.1) = es.map (·.1) := by
   apply List.ext_getElem
   ·simp [k2]
   ·intro j h1 h2
    simp only [List.length_map, Array.length_toList] at h1 h2
    simp only [List.getElem_map, Array.getElem_toList]
    rw [WideElems.rg_of (hrd j h1)]
    simp [strOf, List.getD, List.getElem?_eq_getElem h2]
  rw [e]
 have hsz : Maps.size (H := Unit) (.map ((ms.toList.map (WideElems.rg Tryz.prog 9 R)).foldr DataW.insert [])) = es.length := by
  rw [size_eq, DataW.length_sorted]; simp [k2]
 have hcall := callsIn_wide.1 (Z0 b bm es.length _ R w (hen.bound p bm hbm) hcell hown (by rw [hsz]; simp only [maxLen]; omega) (by rw [hsz]; exact hb16))
 refine hcall.mono ?_
 rintro e w' ⟨v, ss, rfl, hss, hrow, _, hbel⟩
 refine ⟨v, κ, rfl, Leave.same hen hbel, ?_⟩
 have hsort : ss.mergeSort (fun x y => decide (x ≤ y)) = (es.map (·.1)).mergeSort F5 := mergeSort_of_perm (hss.trans hperm)
 rw [hsort] at hrow
 generalize hL : (es.map (·.1)).mergeSort F5 = L at hrow
 have hLl : L.length = es.length := by rw [← hL]; simp
 have hssl : ss.length = es.length := by have := (hss.trans hperm).length_eq; simpa using this
 have hLk : ∀ x ∈ L, x.length ≤ 9223372036854775807 := fun x hx => k3.2.2 x (by rw [← hL] at hx; exact (List.mergeSort_perm _ _).mem_iff.1 hx)
 obtain ⟨hrl, hrow⟩ := hrow
 rcases hrow with ⟨rfl, hz⟩ | ⟨g, cap, cur, rfl, hbase, hg, hcap, _, hcur, htake⟩
 ·have : L = [] := List.length_eq_zero_iff.1 (by omega)
  subst this
  have := Rel.slice (w := w') (κ := κ) (pv := aP aO κ H) (es := []) (tag := .shared) (a := none) (cap := 0) 0 0 1 (fun _ _ => undef) (fun i h => by cases h) (fun h => (h rfl).elim) (Nat.le_refl _) (by simp) (fun i j h => by cases h) (fun i j h => by cases h) (fun i j h => by cases h) trivial
  simpa using this
 ·have hgi : ∀ i, i < L.length → w'.cell? ⟨g, 0 + (i * 1 + 0), none⟩ = some (encStr (L.getD i [])) := fun i hi => by
   have hcs : i < cur.size := by omega
   have e1 : cur[i] = encStr (L.getD i []) := by
    have : (cur.toList.take (ss.length * 1))[i]? = some (encStr (L.getD i [])) := by
     rw [htake, List.getElem?_map, List.getElem?_eq_getElem hi]
     simp [List.getD, List.getElem?_eq_getElem hi]
    rw [List.getElem?_take, if_pos (by omega)] at this
    simpa [hcs] using this
   have e0 : 0 + (i * 1 + 0) = i := by omega
   rw [e0]
   simp [World.cell?, hg, hcs, e1]
  have hlen2 : (L.map encS).length = es.length := by simp [hLl]
  have := Rel.slice (w := w') (κ := κ) (pv := aP aO κ H) (es := L.map encS) (tag := .shared) (a := some ⟨g, 0, none⟩) (cap := cap) g 0 1 (fun i _ => encStr (L.getD i []))
   (fun i hi => by simp only [List.length_map] at hi; simp [List.getD, List.getElem?_eq_getElem hi, encS]) (fun _ => rfl) (by omega) (by omega)
   (fun i j _ _ hpv => by have := YZ hen hpv; omega)
   (fun i j hi hj => by
    simp only [List.length_map] at hi
    have hj0 : j = 0 := by omega
    subst hj0
    exact hgi i hi)
   (fun i j hi hj => by
    simp only [List.length_map] at hi
    have hj0 : j = 0 := by omega
    subst hj0
    have e : ((L.map encS).getD i []).getD 0 .unk = .str (L.getD i []) := by simp [List.getD, List.getElem?_eq_getElem hi, encS]
    rw [e]
    refine .str (hLk _ ?_)
    rw [List.getD, List.getElem?_eq_getElem hi]; exact List.getElem_mem _) trivial
  rw [hlen2] at this
  rw [hssl]
  exact this
end Abs
end Go.Proofs.YtkopaeklihhdlaaGreat
namespace Go.Proofs.YtkopaeklihhdlaaGreat
namespace Abs
open Go
def eqT : Tag → Tag → Bool
 | .shared, .shared => true
 | .nils, .nils => true
 | .tip l z, .tip l' z' => Nat.beq l l' && Nat.beq z z'
 | _, _ => false
def eqB : List UInt8 → List UInt8 → Bool
 | [], [] => true
 | a :: s, b :: t => Nat.beq a.toNat b.toNat && eqB s t
 | _, _ => false
mutual
def yC : AV → AV → Bool
 | .unk, .unk => true
 | .int k n, .int k' n' => decide (k = k') && decide (n = n')
 | .bool b, .bool b' => b == b'
 | .str s, .str s' => eqB s s'
 | .nilp, .nilp => true
 | .ptr l o, .ptr l' o' => Nat.beq l l' && Nat.beq o o'
 | .slice es t, .slice es' t' => eqT t t' && O1 es es'
 | .agg cs, .agg cs' => Gw cs cs'
 | .tup cs, .tup cs' => Gw cs cs'
 | .func f cs, .func f' cs' => Nat.beq f f' && Gw cs cs'
 | .mapr l, .mapr l' => Nat.beq l l'
 | .nilFunc, .nilFunc => true
 | .psl l z n, .psl l' z' n' => Nat.beq l l' && (Nat.beq z z' && Nat.beq n n')
 | _, _ => false
def Gw : List AV → List AV → Bool
 | [], [] => true
 | c :: cs, c' :: cs' => yC c c' && Gw cs cs'
 | _, _ => false
def O1 : List (List AV) → List (List AV) → Bool
 | [], [] => true
 | c :: cs, c' :: cs' => Gw c c' && O1 cs cs'
 | _, _ => false
end
def Zk : List (List UInt8 × AV) → List (List UInt8 × AV) → Bool
 | [], [] => true
 | (k, v) :: m, (k', v') :: m' => eqB k k' && (yC v v' && Zk m m')
 | _, _ => false
def eqO : AObj → AObj → Bool
 | .box cs, .box cs' => Gw cs cs'
 | .tip n, .tip n' => Nat.beq n n'
 | .dead, .dead => true
 | .mp m, .mp m' => Zk m m'
 | .arr z es, .arr z' es' => Nat.beq z z' && O1 es es'
 | _, _ => false
def PW : List AObj → List AObj → Bool
 | [], [] => true
 | c :: cs, c' :: cs' => eqO c c' && PW cs cs'
 | _, _ => false
theorem agB {x y : Tag} (h : eqT x y = true) : x = y := by
 cases x <;> cases y <;> simp only [eqT, Bool.and_eq_true, Bool.false_eq_true] at h
 ·rfl
 ·rfl
 ·rw [Nat.eq_of_beq_eq_true h.1, Nat.eq_of_beq_eq_true h.2]
theorem U6 : ∀ {x y : List UInt8}, eqB x y = true → x = y
 | [], [], _ => rfl
 | a :: s, b :: t, h => by
  simp only [eqB, Bool.and_eq_true] at h
  rw [U6 h.2, UInt8.toNat_inj.1 (Nat.eq_of_beq_eq_true h.1)]
mutual
theorem abI : ∀ {x y : AV}, yC x y = true → x = y
 | .unk, y, h => by cases y <;> simp [yC] at h ⊢
 | .int k n, y, h => by cases y <;> simp [yC] at h ⊢; exact h
 | .bool b, y, h => by cases y <;> simp [yC] at h ⊢; exact h
 | .str s, y, h => by cases y <;> simp only [yC, Bool.false_eq_true] at h; rw [U6 h]
 | .nilp, y, h => by cases y <;> simp [yC] at h ⊢
 | .ptr l o, y, h => by
  cases y <;> simp only [yC, Bool.false_eq_true, Bool.and_eq_true] at h
  rw [Nat.eq_of_beq_eq_true h.1, Nat.eq_of_beq_eq_true h.2]
 | .slice es t, y, h => by
  cases y <;> simp only [yC, Bool.false_eq_true, Bool.and_eq_true] at h
  rw [agB h.1, Qk h.2]
 | .agg cs, y, h => by cases y <;> simp only [yC, Bool.false_eq_true] at h; rw [Bw h]
 | .tup cs, y, h => by cases y <;> simp only [yC, Bool.false_eq_true] at h; rw [Bw h]
 | .func f cs, y, h => by
  cases y <;> simp only [yC, Bool.false_eq_true, Bool.and_eq_true] at h
  rw [Nat.eq_of_beq_eq_true h.1, Bw h.2]
 | .mapr l, y, h => by cases y <;> simp only [yC, Bool.false_eq_true] at h; rw [Nat.eq_of_beq_eq_true h]
 | .nilFunc, y, h => by cases y <;> simp [yC] at h ⊢
 | .eptr _, y, h => by cases y <;> simp [yC] at h
 | .psl l z n, y, h => by
  cases y <;> simp only [yC, Bool.false_eq_true, Bool.and_eq_true] at h
  rw [Nat.eq_of_beq_eq_true h.1, Nat.eq_of_beq_eq_true h.2.1, Nat.eq_of_beq_eq_true h.2.2]
 | .flist _, y, h => by cases y <;> simp [yC] at h
theorem Bw : ∀ {x y : List AV}, Gw x y = true → x = y
 | [], y, h => by cases y <;> simp [Gw] at h ⊢
 | c :: cs, y, h => by
  cases y <;> simp only [Gw, Bool.false_eq_true, Bool.and_eq_true] at h
  rw [abI h.1, Bw h.2]
theorem Qk : ∀ {x y : List (List AV)}, O1 x y = true → x = y
 | [], y, h => by cases y <;> simp [O1] at h ⊢
 | c :: cs, y, h => by
  cases y <;> simp only [O1, Bool.false_eq_true, Bool.and_eq_true] at h
  rw [Bw h.1, Qk h.2]
end
theorem abT : ∀ {x y : List (List UInt8 × AV)}, Zk x y = true → x = y
 | [], y, h => by cases y <;> simp [Zk] at h ⊢
 | (k, v) :: m, y, h => by
  cases y with
  | nil => simp [Zk] at h
  | cons p m' =>
   obtain ⟨k', v'⟩ := p
   simp only [Zk, Bool.and_eq_true] at h
   rw [U6 h.1, abI h.2.1, abT h.2.2]
theorem agj {x y : AObj} (h : eqO x y = true) : x = y := by
 cases x <;> cases y <;> simp only [eqO, Bool.false_eq_true, Bool.and_eq_true] at h
 ·rw [Bw h]
 ·rw [Nat.eq_of_beq_eq_true h]
 ·rw [abT h]
 ·rfl
 ·rw [Nat.eq_of_beq_eq_true h.1, Qk h.2]
theorem Zz : ∀ {x y : List AObj}, PW x y = true → x = y
 | [], y, h => by cases y <;> simp [PW] at h ⊢
 | c :: cs, y, h => by
  cases y <;> simp only [PW, Bool.false_eq_true, Bool.and_eq_true] at h
  rw [agj h.1, Zz h.2]
structure Known where
 f : Nat
 args : List AV
 H : List AObj
 res : AV
 H' : List AObj
def known : List Known → fA → fA
 | [], E, f, args, H => E f args H
 | e :: m, E, f, args, H => bif Nat.beq e.f f && (Gw e.args args && PW e.H H) then some (e.res, e.H') else known m E f args H
theorem Vn {P : Program} {E : fA} (hE : ∀ f args H r, E f args H = some r → aA P f args H r.1 r.2) : ∀ (m : List Known), (∀ e ∈ m, aA P e.f e.args e.H e.res e.H') → ∀ f args H r, known m E f args H = some r → aA P f args H r.1 r.2
 | [], _, f, args, H, r, h => hE f args H r h
 | e :: m, hm, f, args, H, r, h => by
  unfold known at h
  cases hb : (Nat.beq e.f f && (Gw e.args args && PW e.H H)) with
  | false => rw [hb] at h; exact Vn hE m (fun e he => hm e (List.mem_cons_of_mem _ he)) f args H r h
  | true =>
   rw [hb] at h
   simp only [cond_true, Option.some.injEq] at h
   subst h
   simp only [Bool.and_eq_true] at hb
   have := hm e (by simp)
   rw [Nat.eq_of_beq_eq_true hb.1, Bw hb.2.1, Zz hb.2.2] at this
   exact this
end Abs
end Go.Proofs.YtkopaeklihhdlaaGreat

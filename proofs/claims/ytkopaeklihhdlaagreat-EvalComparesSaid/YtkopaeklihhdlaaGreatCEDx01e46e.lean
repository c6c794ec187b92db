/-
  Structures of the program (printed by gen.py). Conditions: none.
-/
import Derived.KernelRfl
import Derived.Test.YtkopaeklihhdlaaGreatCDmx12f51d
import Derived.Test.YtkopaeklihhdlaaGreatCTabx5bd3cb
set_option linter.unusedSimpArgs false
set_option linter.unusedVariables false
namespace Go.Proofs.YtkopaeklihhdlaaGreat
namespace Abs
open Go Go.Proofs
def iw (x : S_api_World) : List AV := [.slice (List.map aj x.env.carriers) .shared, .slice (List.map aC x.env.names) .shared, .slice (List.map encI x.sizes) .shared, .slice (List.map ah x.values) .shared]
theorem aP (g : Nat → Nat) (l : List S_api_World) : aV g (l.map iw) = l.map iw := ug (fun g x => by simp only [iw, bn, ren, cK, bD, bq, bL, bC, bM, aH, aO, aN]) g l
def dA (x : S_refinementlaw03_Typed) : List AV := [.slice (List.map encI x.sizes) .shared, .int .i64 x.v.kind, .int .i64 x.v.n, .str x.v.name, .slice (List.map ah x.v.kids) .shared, .int .i64 x.t.kind, .str x.t.name, .slice (List.map aG x.t.kids) .shared]
theorem aA (g : Nat → Nat) (l : List S_refinementlaw03_Typed) : aV g (l.map dA) = l.map dA := ug (fun g x => by simp only [dA, bn, ren, cK, bD, bq, bL, bC, bM, aH, aO, aN, aP]) g l
def mF (x : S_api_Scope) : List AV := [.slice (List.map encI x.sizes) .shared, .int .i64 x.lo, .int .i64 x.hi]
theorem aQ (g : Nat → Nat) (l : List S_api_Scope) : aV g (l.map mF) = l.map mF := ug (fun g x => by simp only [mF, bn, ren, cK, bD, bq, bL, bC, bM, aH, aO, aN, aP, aA]) g l
theorem yX : aX Tryz.prog 23 = true := by kernel_rfl
theorem abC : aX Tryz.prog 59 = true := by kernel_rfl
theorem XJ : aX Tryz.prog 60 = true := by kernel_rfl
theorem abJ : aX Tryz.prog 62 = true := by kernel_rfl
theorem Uc : aX Tryz.prog 114 = true := by kernel_rfl
theorem rg {m id : Nat} {l : Array Oper} {dr : Bool} {Q : QT} {t : List AV} {h : List AObj} (r : Nat) (hr : rep r h fun h2 => HV h 0 fun k => yG Tryz.prog τ l.toList l.toList k [] t h2 fun es t h => eH dr (oK l.toList es = true ∧ Q .normal t h) (Q .normal t h)) : AW Tryz.prog m (.region id l dr) Q t h := AW.region aJ fZ r hr
attribute [simp] ren bn aV cK Mx ME ab5 abe ZV Pv XD bE bD bq bL bC bM aH aO aN aP aA aQ
end Abs
end Go.Proofs.YtkopaeklihhdlaaGreat

/-
  Structures of the program (printed by gen.py). Conditions: none.
-/
import Derived.KernelRfl
import Derived.Test.YtkopaeklihhdlaaGreatCDfox8ce24f
import Derived.Test.YtkopaeklihhdlaaGreatCTaboxf40b0c
set_option linter.unusedSimpArgs false
set_option linter.unusedVariables false
namespace Go.Proofs.YtkopaeklihhdlaaGreat
namespace Abs
open Go Go.Proofs
def gT (x : S_api_World) : List AV := [.slice (List.map ah x.env.carriers) .shared, .slice (List.map ak x.env.names) .shared, .slice (List.map encI x.sizes) .shared, .slice (List.map aj x.values) .shared]
theorem aR (g : Nat → Nat) (l : List S_api_World) : bq g (l.map gT) = l.map gT := vJ (fun g x => by simp only [gT, bC, ren, dh, aV, bE, bP, aZ, bQ, aA, aF, aI]) g l
def dD (x : S_refinementlaw03_Typed) : List AV := [.slice (List.map encI x.sizes) .shared, .int .i64 x.v.kind, .int .i64 x.v.n, .str x.v.name, .slice (List.map aj x.v.kids) .shared, .int .i64 x.t.kind, .str x.t.name, .slice (List.map aC x.t.kids) .shared]
theorem aJ (g : Nat → Nat) (l : List S_refinementlaw03_Typed) : bq g (l.map dD) = l.map dD := vJ (fun g x => by simp only [dD, bC, ren, dh, aV, bE, bP, aZ, bQ, aA, aF, aI, aR]) g l
def nk (x : S_api_Scope) : List AV := [.slice (List.map encI x.sizes) .shared, .int .i64 x.lo, .int .i64 x.hi]
theorem aS (g : Nat → Nat) (l : List S_api_Scope) : bq g (l.map nk) = l.map nk := vJ (fun g x => by simp only [nk, bC, ren, dh, aV, bE, bP, aZ, bQ, aA, aF, aI, aR, aJ]) g l
theorem ab6 : aU Tryz.prog 9 = true := by kernel_rfl
theorem Sv : aU Tryz.prog 13 = true := by kernel_rfl
theorem U1 : aU Tryz.prog 14 = true := by kernel_rfl
theorem zS : aU Tryz.prog 23 = true := by kernel_rfl
theorem Mg : aU Tryz.prog 26 = true := by kernel_rfl
theorem Tj : aU Tryz.prog 42 = true := by kernel_rfl
theorem UC : aU Tryz.prog 43 = true := by kernel_rfl
theorem Nb : aU Tryz.prog 45 = true := by kernel_rfl
theorem Tx : aU Tryz.prog 46 = true := by kernel_rfl
theorem aay : aU Tryz.prog 47 = true := by kernel_rfl
theorem Z5 : aU Tryz.prog 48 = true := by kernel_rfl
theorem Ud : aU Tryz.prog 49 = true := by kernel_rfl
theorem Cu : aU Tryz.prog 50 = true := by kernel_rfl
theorem aey : aU Tryz.prog 59 = true := by kernel_rfl
theorem aan : aU Tryz.prog 60 = true := by kernel_rfl
theorem afG : aU Tryz.prog 62 = true := by kernel_rfl
theorem Vf : aU Tryz.prog 66 = true := by kernel_rfl
theorem ZT : aU Tryz.prog 67 = true := by kernel_rfl
theorem ZI : aU Tryz.prog 68 = true := by kernel_rfl
theorem LU : aU Tryz.prog 87 = true := by kernel_rfl
theorem afK : aU Tryz.prog 88 = true := by kernel_rfl
theorem afd : aU Tryz.prog 89 = true := by kernel_rfl
theorem aeD : aU Tryz.prog 90 = true := by kernel_rfl
theorem afi : aU Tryz.prog 91 = true := by kernel_rfl
theorem afA : aU Tryz.prog 92 = true := by kernel_rfl
theorem T9 : aU Tryz.prog 93 = true := by kernel_rfl
theorem ZU : aU Tryz.prog 94 = true := by kernel_rfl
theorem ZK : aU Tryz.prog 95 = true := by kernel_rfl
theorem aak : aU Tryz.prog 97 = true := by kernel_rfl
theorem Gw : aU Tryz.prog 98 = true := by kernel_rfl
theorem aeC : aU Tryz.prog 99 = true := by kernel_rfl
theorem WZ : aU Tryz.prog 100 = true := by kernel_rfl
theorem adW : aU Tryz.prog 101 = true := by kernel_rfl
theorem Xn : aU Tryz.prog 102 = true := by kernel_rfl
theorem Xu : aU Tryz.prog 103 = true := by kernel_rfl
theorem Xy : aU Tryz.prog 104 = true := by kernel_rfl
theorem WY : aU Tryz.prog 114 = true := by kernel_rfl
theorem Xv : aU Tryz.prog 119 = true := by kernel_rfl
theorem adA : aU Tryz.prog 120 = true := by kernel_rfl
theorem XO : aU Tryz.prog 133 = true := by kernel_rfl
theorem adu : aU Tryz.prog 134 = true := by kernel_rfl
theorem ac9 : aU Tryz.prog 135 = true := by kernel_rfl
theorem XT : aU Tryz.prog 150 = true := by kernel_rfl
theorem ac4 : aU Tryz.prog 151 = true := by kernel_rfl
theorem adb : aU Tryz.prog 152 = true := by kernel_rfl
theorem acA : aU Tryz.prog 153 = true := by kernel_rfl
theorem Xk : aU Tryz.prog 154 = true := by kernel_rfl
theorem adr : aU Tryz.prog 155 = true := by kernel_rfl
theorem adC : aU Tryz.prog 156 = true := by kernel_rfl
theorem Xc : aU Tryz.prog 157 = true := by kernel_rfl
theorem Xe : aU Tryz.prog 158 = true := by kernel_rfl
theorem Xo : aU Tryz.prog 159 = true := by kernel_rfl
theorem adf : aU Tryz.prog 162 = true := by kernel_rfl
theorem adM : aU Tryz.prog 182 = true := by kernel_rfl
theorem adZ : aU Tryz.prog 203 = true := by kernel_rfl
theorem acE : aU Tryz.prog 204 = true := by kernel_rfl
theorem XM : aU Tryz.prog 205 = true := by kernel_rfl
theorem ad7 : aU Tryz.prog 206 = true := by kernel_rfl
theorem ac1 : aU Tryz.prog 207 = true := by kernel_rfl
theorem acP : aU Tryz.prog 208 = true := by kernel_rfl
theorem adE : aU Tryz.prog 209 = true := by kernel_rfl
theorem adL : aU Tryz.prog 287 = true := by kernel_rfl
theorem Xz : aU Tryz.prog 288 = true := by kernel_rfl
theorem rg {m id : Nat} {l : Array Oper} {dr : Bool} {Q : QT} {t : List AV} {h : List AObj} (r : Nat) (hr : rep r h fun h2 => J4 h 0 fun k => zQ Tryz.prog τ l.toList l.toList k [] t h2 fun es t h => fA dr (oZ l.toList es = true ∧ Q .normal t h) (Q .normal t h)) : AW Tryz.prog m (.region id l dr) Q t h := AW.region aK dQ r hr
attribute [simp] ren bC bq dh PS Pz afe afn acM Te Z7 bJ aV bE bP aZ bQ aA aF aI aR aJ aS
end Abs
end Go.Proofs.YtkopaeklihhdlaaGreat

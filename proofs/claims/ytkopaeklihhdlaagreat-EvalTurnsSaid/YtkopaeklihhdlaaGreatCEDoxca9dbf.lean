/-
  Structures of the program (printed by gen.py). Conditions: none.
-/
import Derived.KernelRfl
import Derived.Test.YtkopaeklihhdlaaGreatCDfox6582a4
import Derived.Test.YtkopaeklihhdlaaGreatCTaboxeeee45
set_option linter.unusedSimpArgs false
set_option linter.unusedVariables false
namespace Go.Proofs.YtkopaeklihhdlaaGreat
namespace Abs
open Go Go.Proofs
def gB (x : S_api_World) : List AV := [.slice (List.map aj x.env.carriers) .shared, .slice (List.map ak x.env.names) .shared, .slice (List.map encI x.sizes) .shared, .slice (List.map ah x.values) .shared]
theorem aS (g : Nat → Nat) (l : List S_api_World) : bq g (l.map gB) = l.map gB := sI (fun g x => by simp only [gB, bD, ren, dx, aR, bE, bQ, bf, bP, au, aF, aD]) g l
def dJ (x : S_refinementlaw03_Typed) : List AV := [.slice (List.map encI x.sizes) .shared, .int .i64 x.v.kind, .int .i64 x.v.n, .str x.v.name, .slice (List.map ah x.v.kids) .shared, .int .i64 x.t.kind, .str x.t.name, .slice (List.map aH x.t.kids) .shared]
theorem aL (g : Nat → Nat) (l : List S_refinementlaw03_Typed) : bq g (l.map dJ) = l.map dJ := sI (fun g x => by simp only [dJ, bD, ren, dx, aR, bE, bQ, bf, bP, au, aF, aD, aS]) g l
def nP (x : S_api_Scope) : List AV := [.slice (List.map encI x.sizes) .shared, .int .i64 x.lo, .int .i64 x.hi]
theorem aT (g : Nat → Nat) (l : List S_api_Scope) : bq g (l.map nP) = l.map nP := sI (fun g x => by simp only [nP, bD, ren, dx, aR, bE, bQ, bf, bP, au, aF, aD, aS, aL]) g l
theorem aaR : aY Tryz.prog 9 = true := by kernel_rfl
theorem NW : aY Tryz.prog 13 = true := by kernel_rfl
theorem Ho : aY Tryz.prog 14 = true := by kernel_rfl
theorem BS : aY Tryz.prog 23 = true := by kernel_rfl
theorem NU : aY Tryz.prog 26 = true := by kernel_rfl
theorem VL : aY Tryz.prog 42 = true := by kernel_rfl
theorem Xm : aY Tryz.prog 43 = true := by kernel_rfl
theorem OC : aY Tryz.prog 45 = true := by kernel_rfl
theorem Xq : aY Tryz.prog 46 = true := by kernel_rfl
theorem acI : aY Tryz.prog 47 = true := by kernel_rfl
theorem ab5 : aY Tryz.prog 48 = true := by kernel_rfl
theorem Wx : aY Tryz.prog 49 = true := by kernel_rfl
theorem DI : aY Tryz.prog 50 = true := by kernel_rfl
theorem aho : aY Tryz.prog 59 = true := by kernel_rfl
theorem abC : aY Tryz.prog 60 = true := by kernel_rfl
theorem agh : aY Tryz.prog 62 = true := by kernel_rfl
theorem VU : aY Tryz.prog 66 = true := by kernel_rfl
theorem Va : aY Tryz.prog 67 = true := by kernel_rfl
theorem VA : aY Tryz.prog 68 = true := by kernel_rfl
theorem NP : aY Tryz.prog 87 = true := by kernel_rfl
theorem ahE : aY Tryz.prog 88 = true := by kernel_rfl
theorem agl : aY Tryz.prog 89 = true := by kernel_rfl
theorem agL : aY Tryz.prog 90 = true := by kernel_rfl
theorem ahC : aY Tryz.prog 91 = true := by kernel_rfl
theorem ahw : aY Tryz.prog 92 = true := by kernel_rfl
theorem UU : aY Tryz.prog 93 = true := by kernel_rfl
theorem ach : aY Tryz.prog 94 = true := by kernel_rfl
theorem abF : aY Tryz.prog 95 = true := by kernel_rfl
theorem abw : aY Tryz.prog 97 = true := by kernel_rfl
theorem Hg : aY Tryz.prog 98 = true := by kernel_rfl
theorem ahb : aY Tryz.prog 99 = true := by kernel_rfl
theorem Y5 : aY Tryz.prog 100 = true := by kernel_rfl
theorem afL : aY Tryz.prog 101 = true := by kernel_rfl
theorem Zo : aY Tryz.prog 102 = true := by kernel_rfl
theorem Zm : aY Tryz.prog 103 = true := by kernel_rfl
theorem Zd : aY Tryz.prog 104 = true := by kernel_rfl
theorem ZN : aY Tryz.prog 114 = true := by kernel_rfl
theorem ZE : aY Tryz.prog 119 = true := by kernel_rfl
theorem aeo : aY Tryz.prog 120 = true := by kernel_rfl
theorem Zf : aY Tryz.prog 133 = true := by kernel_rfl
theorem afZ : aY Tryz.prog 134 = true := by kernel_rfl
theorem aeU : aY Tryz.prog 135 = true := by kernel_rfl
theorem Zl : aY Tryz.prog 150 = true := by kernel_rfl
theorem afV : aY Tryz.prog 151 = true := by kernel_rfl
theorem ae8 : aY Tryz.prog 152 = true := by kernel_rfl
theorem aeH : aY Tryz.prog 153 = true := by kernel_rfl
theorem ZJ : aY Tryz.prog 154 = true := by kernel_rfl
theorem afw : aY Tryz.prog 155 = true := by kernel_rfl
theorem aeG : aY Tryz.prog 156 = true := by kernel_rfl
theorem Zj : aY Tryz.prog 157 = true := by kernel_rfl
theorem ZK : aY Tryz.prog 158 = true := by kernel_rfl
theorem Zw : aY Tryz.prog 159 = true := by kernel_rfl
theorem aeW : aY Tryz.prog 162 = true := by kernel_rfl
theorem afp : aY Tryz.prog 182 = true := by kernel_rfl
theorem afR : aY Tryz.prog 203 = true := by kernel_rfl
theorem afz : aY Tryz.prog 204 = true := by kernel_rfl
theorem YX : aY Tryz.prog 205 = true := by kernel_rfl
theorem afx : aY Tryz.prog 206 = true := by kernel_rfl
theorem ae7 : aY Tryz.prog 207 = true := by kernel_rfl
theorem aeV : aY Tryz.prog 208 = true := by kernel_rfl
theorem afj : aY Tryz.prog 209 = true := by kernel_rfl
theorem afM : aY Tryz.prog 287 = true := by kernel_rfl
theorem ZI : aY Tryz.prog 288 = true := by kernel_rfl
theorem rg {m id : Nat} {l : Array Oper} {dr : Bool} {Q : QT} {t : List AV} {h : List AObj} (r : Nat) (hr : rep r h fun h2 => Jg h 0 fun k => Bt Tryz.prog τ l.toList l.toList k [] t h2 fun es t h => eY dr (oL l.toList es = true ∧ Q .normal t h) (Q .normal t h)) : AW Tryz.prog m (.region id l dr) Q t h := AW.region aJ dN r hr
attribute [simp] ren bD bq dx Qw Qq agf agW aeN UD acw bM aR bE bQ bf bP au aF aD aS aL aT
end Abs
end Go.Proofs.YtkopaeklihhdlaaGreat

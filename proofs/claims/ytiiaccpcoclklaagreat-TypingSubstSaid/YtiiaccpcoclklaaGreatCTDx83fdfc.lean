/-
  Structures of the program (printed by gen.py). Conditions: none.
-/
import Derived.KernelRfl
import Derived.Test.YtiiaccpcoclklaaGreatCAbs38x04b7ad
set_option linter.unusedSimpArgs false
set_option linter.unusedVariables false
namespace Go.Proofs.YtiiaccpcoclklaaGreat
namespace Abs
open Go Go.Proofs
def dI : List AV := [.nilFunc, .func 265 [.eptr [.int .i64 2, .str ([] : Str), .slice (List.map aF ([])) .shared]], .func 265 [.eptr [.int .i64 2, .str ([] : Str), .slice (List.map aF ([])) .shared]], .func 259 [.eptr [.int .i64 2, .str ([] : Str), .slice (List.map aF ([])) .shared], .eptr [.int .i64 2]], .func 259 [.eptr [.int .i64 2, .str ([] : Str), .slice (List.map aF ([])) .shared], .eptr [.int .i64 2]], .func 259 [.eptr [.int .i64 2, .str ([] : Str), .slice (List.map aF ([])) .shared], .eptr [.int .i64 2]], .func 259 [.eptr [.int .i64 2, .str ([] : Str), .slice (List.map aF ([])) .shared], .eptr [.int .i64 2]], .func 259 [.eptr [.int .i64 2, .str ([] : Str), .slice (List.map aF ([])) .shared], .eptr [.int .i64 2]], .func 266 [.eptr [.func 214 []]], .func 266 [.eptr [.func 214 []]], .func 201 [], .func 201 [], .func 259 [.eptr [.int .i64 2, .str ([] : Str), .slice (List.map aF ([])) .shared], .eptr [.int .i64 1]], .func 259 [.eptr [.int .i64 2, .str ([] : Str), .slice (List.map aF ([])) .shared], .eptr [.int .i64 1]], .func 259 [.eptr [.int .i64 2, .str ([] : Str), .slice (List.map aF ([])) .shared], .eptr [.int .i64 1]], .func 259 [.eptr [.int .i64 2, .str ([] : Str), .slice (List.map aF ([])) .shared], .eptr [.int .i64 1]], .func 216 [], .func 216 [], .func 267 [.eptr [.func 214 []]], .func 265 [.eptr [.int .i64 1, .str ([] : Str), .slice (List.map aF ([])) .shared]], .nilFunc, .func 259 [.eptr [.int .i64 1, .str ([] : Str), .slice (List.map aF ([])) .shared], .eptr [.int .i64 1]], .func 259 [.eptr [.int .i64 1, .str ([] : Str), .slice (List.map aF ([])) .shared], .eptr [.int .i64 1]], .func 259 [.eptr [.int .i64 1, .str ([] : Str), .slice (List.map aF ([])) .shared], .eptr [.int .i64 1]], .func 259 [.eptr [.int .i64 1, .str ([] : Str), .slice (List.map aF ([])) .shared], .eptr [.int .i64 1]], .func 259 [.eptr [.int .i64 1, .str ([] : Str), .slice (List.map aF ([])) .shared], .eptr [.int .i64 1]], .func 259 [.eptr [.int .i64 1, .str ([] : Str), .slice (List.map aF ([])) .shared], .eptr [.int .i64 1]], .func 218 [], .func 220 [], .nilFunc, .func 259 [.eptr [.int .i64 5, .str ([] : Str), .slice (List.map aF ([(Ty.mk 1 ([] : Str) ([]))])) .shared], .eptr [.int .i64 1]], .func 267 [.eptr [.func 215 []]], .func 267 [.eptr [.func 215 []]], .func 267 [.eptr [.func 215 []]], .func 262 [.eptr [.func 205 []]], .func 263 [.eptr [.func 221 []]], .func 263 [.eptr [.func 222 []]], .func 206 [], .func 206 [], .func 263 [.eptr [.func 209 []]], .func 263 [.eptr [.func 209 []]], .func 262 [.eptr [.func 204 []]], .func 262 [.eptr [.func 204 []]], .func 262 [.eptr [.func 204 []]], .func 262 [.eptr [.func 204 []]], .func 262 [.eptr [.func 204 []]], .func 264 [.eptr [.func 223 []]], .func 264 [.eptr [.func 224 []]], .func 264 [.eptr [.func 211 []]], .func 264 [.eptr [.func 211 []]], .func 263 [.eptr [.func 225 []]], .func 263 [.eptr [.func 226 []]], .func 263 [.eptr [.func 227 []]], .func 263 [.eptr [.func 228 []]], .func 263 [.eptr [.func 229 []]], .func 266 [.eptr [.func 215 []]], .func 230 []]
theorem aT (g : Nat → Nat) : bR g dI = dI := by simp only [dI, ren, bR, bE, dO, aQ, bf, bT, aD, aM, aK, aN]
theorem Ir : au Tryz.prog 16 = true := by kernel_rfl
theorem Db : au Tryz.prog 18 = true := by kernel_rfl
theorem mH : au Tryz.prog 20 = true := by kernel_rfl
theorem y5 : au Tryz.prog 21 = true := by kernel_rfl
theorem okF_31 : au Tryz.prog 31 = true := by kernel_rfl
theorem AB : au Tryz.prog 42 = true := by kernel_rfl
theorem abQ : au Tryz.prog 45 = true := by kernel_rfl
theorem Bo : au Tryz.prog 50 = true := by kernel_rfl
theorem ahF : au Tryz.prog 55 = true := by kernel_rfl
theorem Ip : au Tryz.prog 58 = true := by kernel_rfl
theorem aa7 : au Tryz.prog 66 = true := by kernel_rfl
theorem amB : au Tryz.prog 67 = true := by kernel_rfl
theorem af2 : au Tryz.prog 68 = true := by kernel_rfl
theorem abI : au Tryz.prog 70 = true := by kernel_rfl
theorem Om : au Tryz.prog 72 = true := by kernel_rfl
theorem abL : au Tryz.prog 73 = true := by kernel_rfl
theorem Jq : au Tryz.prog 79 = true := by kernel_rfl
theorem Jz : au Tryz.prog 92 = true := by kernel_rfl
theorem Bh : au Tryz.prog 93 = true := by kernel_rfl
theorem ahG : au Tryz.prog 94 = true := by kernel_rfl
theorem afZ : au Tryz.prog 95 = true := by kernel_rfl
theorem abZ : au Tryz.prog 96 = true := by kernel_rfl
theorem ahM : au Tryz.prog 97 = true := by kernel_rfl
theorem adG : au Tryz.prog 103 = true := by kernel_rfl
theorem ajO : au Tryz.prog 110 = true := by kernel_rfl
theorem ajV : au Tryz.prog 112 = true := by kernel_rfl
theorem aj4 : au Tryz.prog 114 = true := by kernel_rfl
theorem Xe : au Tryz.prog 116 = true := by kernel_rfl
theorem Ez : au Tryz.prog 117 = true := by kernel_rfl
theorem alm : au Tryz.prog 118 = true := by kernel_rfl
theorem adM : au Tryz.prog 120 = true := by kernel_rfl
theorem ajM : au Tryz.prog 121 = true := by kernel_rfl
theorem aef : au Tryz.prog 122 = true := by kernel_rfl
theorem ajZ : au Tryz.prog 123 = true := by kernel_rfl
theorem adn : au Tryz.prog 130 = true := by kernel_rfl
theorem akD : au Tryz.prog 131 = true := by kernel_rfl
theorem ajQ : au Tryz.prog 132 = true := by kernel_rfl
theorem ak4 : au Tryz.prog 133 = true := by kernel_rfl
theorem pQ : au Tryz.prog 134 = true := by kernel_rfl
theorem ajP : au Tryz.prog 135 = true := by kernel_rfl
theorem ajL : au Tryz.prog 136 = true := by kernel_rfl
theorem aeE : au Tryz.prog 137 = true := by kernel_rfl
theorem uW : au Tryz.prog 138 = true := by kernel_rfl
theorem akn : au Tryz.prog 141 = true := by kernel_rfl
theorem adH : au Tryz.prog 176 = true := by kernel_rfl
theorem ajJ : au Tryz.prog 177 = true := by kernel_rfl
theorem O4 : au Tryz.prog 178 = true := by kernel_rfl
theorem ajK : au Tryz.prog 179 = true := by kernel_rfl
theorem ad7 : au Tryz.prog 180 = true := by kernel_rfl
theorem alb : au Tryz.prog 181 = true := by kernel_rfl
theorem alc : au Tryz.prog 182 = true := by kernel_rfl
theorem aez : au Tryz.prog 187 = true := by kernel_rfl
theorem adT : au Tryz.prog 190 = true := by kernel_rfl
theorem adB : au Tryz.prog 191 = true := by kernel_rfl
theorem ald : au Tryz.prog 192 = true := by kernel_rfl
theorem akG : au Tryz.prog 193 = true := by kernel_rfl
theorem adx : au Tryz.prog 194 = true := by kernel_rfl
theorem ak8 : au Tryz.prog 195 = true := by kernel_rfl
theorem akT : au Tryz.prog 196 = true := by kernel_rfl
theorem akV : au Tryz.prog 197 = true := by kernel_rfl
theorem OY : au Tryz.prog 198 = true := by kernel_rfl
theorem Ct : au Tryz.prog 199 = true := by kernel_rfl
theorem IG : au Tryz.prog 200 = true := by kernel_rfl
theorem aeJ : au Tryz.prog 201 = true := by kernel_rfl
theorem Jj : au Tryz.prog 202 = true := by kernel_rfl
theorem adD : au Tryz.prog 203 = true := by kernel_rfl
theorem ale : au Tryz.prog 204 = true := by kernel_rfl
theorem Iw : au Tryz.prog 205 = true := by kernel_rfl
theorem ad4 : au Tryz.prog 206 = true := by kernel_rfl
theorem wE : au Tryz.prog 207 = true := by kernel_rfl
theorem Aa : au Tryz.prog 208 = true := by kernel_rfl
theorem akZ : au Tryz.prog 209 = true := by kernel_rfl
theorem X9 : au Tryz.prog 210 = true := by kernel_rfl
theorem akI : au Tryz.prog 211 = true := by kernel_rfl
theorem XR : au Tryz.prog 212 = true := by kernel_rfl
theorem XQ : au Tryz.prog 213 = true := by kernel_rfl
theorem aeI : au Tryz.prog 214 = true := by kernel_rfl
theorem aeA : au Tryz.prog 215 = true := by kernel_rfl
theorem adW : au Tryz.prog 216 = true := by kernel_rfl
theorem O8 : au Tryz.prog 217 = true := by kernel_rfl
theorem ajN : au Tryz.prog 218 = true := by kernel_rfl
theorem aej : au Tryz.prog 219 = true := by kernel_rfl
theorem aj9 : au Tryz.prog 220 = true := by kernel_rfl
theorem akJ : au Tryz.prog 221 = true := by kernel_rfl
theorem alj : au Tryz.prog 222 = true := by kernel_rfl
theorem akK : au Tryz.prog 223 = true := by kernel_rfl
theorem ak5 : au Tryz.prog 224 = true := by kernel_rfl
theorem akw : au Tryz.prog 225 = true := by kernel_rfl
theorem aki : au Tryz.prog 226 = true := by kernel_rfl
theorem ak7 : au Tryz.prog 227 = true := by kernel_rfl
theorem akN : au Tryz.prog 228 = true := by kernel_rfl
theorem ajW : au Tryz.prog 229 = true := by kernel_rfl
theorem akb : au Tryz.prog 230 = true := by kernel_rfl
theorem ake : au Tryz.prog 231 = true := by kernel_rfl
theorem akX : au Tryz.prog 235 = true := by kernel_rfl
theorem akA : au Tryz.prog 236 = true := by kernel_rfl
theorem als : au Tryz.prog 244 = true := by kernel_rfl
theorem O1 : au Tryz.prog 245 = true := by kernel_rfl
theorem adU : au Tryz.prog 246 = true := by kernel_rfl
theorem ak3 : au Tryz.prog 247 = true := by kernel_rfl
theorem ajH : au Tryz.prog 248 = true := by kernel_rfl
theorem akL : au Tryz.prog 252 = true := by kernel_rfl
theorem ajY : au Tryz.prog 253 = true := by kernel_rfl
theorem ajS : au Tryz.prog 254 = true := by kernel_rfl
theorem akM : au Tryz.prog 255 = true := by kernel_rfl
theorem ajX : au Tryz.prog 256 = true := by kernel_rfl
theorem ak6 : au Tryz.prog 257 = true := by kernel_rfl
theorem aj0 : au Tryz.prog 258 = true := by kernel_rfl
theorem nJ : au Tryz.prog 259 = true := by kernel_rfl
theorem aj7 : au Tryz.prog 260 = true := by kernel_rfl
theorem alf : au Tryz.prog 261 = true := by kernel_rfl
theorem Es : au Tryz.prog 262 = true := by kernel_rfl
theorem xX : au Tryz.prog 263 = true := by kernel_rfl
theorem OX : au Tryz.prog 264 = true := by kernel_rfl
theorem YR : au Tryz.prog 265 = true := by kernel_rfl
theorem XD : au Tryz.prog 266 = true := by kernel_rfl
theorem O7 : au Tryz.prog 267 = true := by kernel_rfl
theorem akg : au Tryz.prog 288 = true := by kernel_rfl
theorem rg {m id : Nat} {l : Array Oper} {dr : Bool} {Q : QT} {t : List AV} {h : List AObj} (r : Nat) (hr : rep r h fun h2 => Xa h 0 fun k => zQ Tryz.prog τ l.toList l.toList k [] t h2 fun es t h => iG dr (Ap l.toList es = true ∧ Q .normal t h) (Q .normal t h)) : AW Tryz.prog m (.region id l dr) Q t h := AW.region aC rR r hr
attribute [simp] ren bR bE dO ZI ZE alO alu akq aa0 agx bP aQ bf bT aD aM aK aN aT
abbrev AV.i (n : Int) : AV := .int .i64 n
abbrev aH (l : List Ty) : AV := .slice (List.map aF l) .shared
abbrev bn (l : List Tm) : AV := .slice (List.map aO l) .shared
abbrev dx (l : List Str) : AV := .slice (List.map encS l) .shared
abbrev uz (l : List Int) : AV := .slice (List.map encI l) .shared
abbrev dV (l : List Decl) : AV := .slice (List.map bD l) .shared
abbrev dS (l : List Carrier) : AV := .slice (List.map bQ l) .shared
abbrev jX (x : Env) : AV := .agg [dS x.carriers, dV x.names]
abbrev gI (m : List (Str × Ty)) : List (List UInt8 × AV) := List.map (fun p => (p.1, aU p.2)) m
abbrev fI (m : List (Str × Bool)) : List (List UInt8 × AV) := List.map (fun p => (p.1, AV.bool p.2)) m
theorem OW.mT {h : List AObj} {L : List (Option Nat)} {m : List (Str × Ty)} : OW h L (.mp (gI m)) (.mp (gI m)) := .same rfl (congrArg AObj.mp (dB (f := aU) (fun g x => by simp) _ _))
theorem OW.mB {h : List AObj} {L : List (Option Nat)} {m : List (Str × Bool)} : OW h L (.mp (fI m)) (.mp (fI m)) := .same rfl (congrArg AObj.mp (dB (f := AV.bool) (fun g x => rfl) _ _))
theorem nt {a b c : Nat} (e : a = b) (h : Nat.ble c b = true) : c ≤ a := e ▸ Nat.le_of_ble_eq_true h
theorem cp {P : Program} {f : Nat} {args : List AV} {dst : Option Tmp} {t : List AV} {h : List AObj} {k : Nat} {K : Nat → List Nat → List Wr → Prop} {aargs : List AV} {res : AV} (hc : aA P f aargs [] res []) (hok : au P f = true) (hs : SWs args aargs) (hK : K k [] (aS dst res)) (ha : ∀ g, bR g aargs = aargs := by intro g; simp) (hr : ∀ g, ren g res = res := by intro g; simp) : ACallU P f args dst t h k K := ak hc hok hs ha hr hK
end Abs
end Go.Proofs.YtiiaccpcoclklaaGreat

/-
  Structures of the program (printed by gen.py). Conditions: none.
-/
import Derived.KernelRfl
import Derived.Test.YtiiaccpcoclklaaGreatCTabx0daff1
set_option linter.unusedSimpArgs false
set_option linter.unusedVariables false
namespace Go.Proofs.YtiiaccpcoclklaaGreat
namespace Abs
open Go Go.Proofs
def dD : List AV := [.nilFunc, .func 265 [.eptr [.int .i64 2, .str ([] : Str), .slice (List.map aK ([])) .shared]], .func 265 [.eptr [.int .i64 2, .str ([] : Str), .slice (List.map aK ([])) .shared]], .func 259 [.eptr [.int .i64 2, .str ([] : Str), .slice (List.map aK ([])) .shared], .eptr [.int .i64 2]], .func 259 [.eptr [.int .i64 2, .str ([] : Str), .slice (List.map aK ([])) .shared], .eptr [.int .i64 2]], .func 259 [.eptr [.int .i64 2, .str ([] : Str), .slice (List.map aK ([])) .shared], .eptr [.int .i64 2]], .func 259 [.eptr [.int .i64 2, .str ([] : Str), .slice (List.map aK ([])) .shared], .eptr [.int .i64 2]], .func 259 [.eptr [.int .i64 2, .str ([] : Str), .slice (List.map aK ([])) .shared], .eptr [.int .i64 2]], .func 266 [.eptr [.func 214 []]], .func 266 [.eptr [.func 214 []]], .func 201 [], .func 201 [], .func 259 [.eptr [.int .i64 2, .str ([] : Str), .slice (List.map aK ([])) .shared], .eptr [.int .i64 1]], .func 259 [.eptr [.int .i64 2, .str ([] : Str), .slice (List.map aK ([])) .shared], .eptr [.int .i64 1]], .func 259 [.eptr [.int .i64 2, .str ([] : Str), .slice (List.map aK ([])) .shared], .eptr [.int .i64 1]], .func 259 [.eptr [.int .i64 2, .str ([] : Str), .slice (List.map aK ([])) .shared], .eptr [.int .i64 1]], .func 216 [], .func 216 [], .func 267 [.eptr [.func 214 []]], .func 265 [.eptr [.int .i64 1, .str ([] : Str), .slice (List.map aK ([])) .shared]], .nilFunc, .func 259 [.eptr [.int .i64 1, .str ([] : Str), .slice (List.map aK ([])) .shared], .eptr [.int .i64 1]], .func 259 [.eptr [.int .i64 1, .str ([] : Str), .slice (List.map aK ([])) .shared], .eptr [.int .i64 1]], .func 259 [.eptr [.int .i64 1, .str ([] : Str), .slice (List.map aK ([])) .shared], .eptr [.int .i64 1]], .func 259 [.eptr [.int .i64 1, .str ([] : Str), .slice (List.map aK ([])) .shared], .eptr [.int .i64 1]], .func 259 [.eptr [.int .i64 1, .str ([] : Str), .slice (List.map aK ([])) .shared], .eptr [.int .i64 1]], .func 259 [.eptr [.int .i64 1, .str ([] : Str), .slice (List.map aK ([])) .shared], .eptr [.int .i64 1]], .func 218 [], .func 220 [], .nilFunc, .func 259 [.eptr [.int .i64 5, .str ([] : Str), .slice (List.map aK ([(Ty.mk 1 ([] : Str) ([]))])) .shared], .eptr [.int .i64 1]], .func 267 [.eptr [.func 215 []]], .func 267 [.eptr [.func 215 []]], .func 267 [.eptr [.func 215 []]], .func 262 [.eptr [.func 205 []]], .func 263 [.eptr [.func 221 []]], .func 263 [.eptr [.func 222 []]], .func 206 [], .func 206 [], .func 263 [.eptr [.func 209 []]], .func 263 [.eptr [.func 209 []]], .func 262 [.eptr [.func 204 []]], .func 262 [.eptr [.func 204 []]], .func 262 [.eptr [.func 204 []]], .func 262 [.eptr [.func 204 []]], .func 262 [.eptr [.func 204 []]], .func 264 [.eptr [.func 223 []]], .func 264 [.eptr [.func 224 []]], .func 264 [.eptr [.func 211 []]], .func 264 [.eptr [.func 211 []]], .func 263 [.eptr [.func 225 []]], .func 263 [.eptr [.func 226 []]], .func 263 [.eptr [.func 227 []]], .func 263 [.eptr [.func 228 []]], .func 263 [.eptr [.func 229 []]], .func 266 [.eptr [.func 215 []]], .func 230 []]
theorem aP (g : Nat → Nat) : bW g dD = dD := by simp only [dD, ren, bW, bK, dJ, aQ, aZ, bS, aB, aN, aA, aG]
theorem uo : aF Tryz.prog 16 = true := by kernel_rfl
theorem tX : aF Tryz.prog 18 = true := by kernel_rfl
theorem iQ : aF Tryz.prog 20 = true := by kernel_rfl
theorem uP : aF Tryz.prog 21 = true := by kernel_rfl
theorem BH : aF Tryz.prog 42 = true := by kernel_rfl
theorem aeJ : aF Tryz.prog 45 = true := by kernel_rfl
theorem zW : aF Tryz.prog 50 = true := by kernel_rfl
theorem FD : aF Tryz.prog 55 = true := by kernel_rfl
theorem H7 : aF Tryz.prog 58 = true := by kernel_rfl
theorem ae0 : aF Tryz.prog 66 = true := by kernel_rfl
theorem arq : aF Tryz.prog 67 = true := by kernel_rfl
theorem al9 : aF Tryz.prog 68 = true := by kernel_rfl
theorem KG : aF Tryz.prog 70 = true := by kernel_rfl
theorem Dp : aF Tryz.prog 72 = true := by kernel_rfl
theorem ae8 : aF Tryz.prog 73 = true := by kernel_rfl
theorem E8 : aF Tryz.prog 79 = true := by kernel_rfl
theorem KV : aF Tryz.prog 92 = true := by kernel_rfl
theorem Bq : aF Tryz.prog 93 = true := by kernel_rfl
theorem ald : aF Tryz.prog 94 = true := by kernel_rfl
theorem ae4 : aF Tryz.prog 95 = true := by kernel_rfl
theorem afL : aF Tryz.prog 96 = true := by kernel_rfl
theorem afA : aF Tryz.prog 97 = true := by kernel_rfl
theorem aik : aF Tryz.prog 103 = true := by kernel_rfl
theorem ahZ : aF Tryz.prog 110 = true := by kernel_rfl
theorem ahu : aF Tryz.prog 112 = true := by kernel_rfl
theorem aaE : aF Tryz.prog 114 = true := by kernel_rfl
theorem Rt : aF Tryz.prog 116 = true := by kernel_rfl
theorem GH : aF Tryz.prog 117 = true := by kernel_rfl
theorem ahS : aF Tryz.prog 118 = true := by kernel_rfl
theorem ahA : aF Tryz.prog 120 = true := by kernel_rfl
theorem apc : aF Tryz.prog 121 = true := by kernel_rfl
theorem aiB : aF Tryz.prog 122 = true := by kernel_rfl
theorem ahf : aF Tryz.prog 123 = true := by kernel_rfl
theorem ais : aF Tryz.prog 130 = true := by kernel_rfl
theorem aoq : aF Tryz.prog 131 = true := by kernel_rfl
theorem aom : aF Tryz.prog 132 = true := by kernel_rfl
theorem aof : aF Tryz.prog 133 = true := by kernel_rfl
theorem ru : aF Tryz.prog 134 = true := by kernel_rfl
theorem apN : aF Tryz.prog 135 = true := by kernel_rfl
theorem ao4 : aF Tryz.prog 136 = true := by kernel_rfl
theorem ah7 : aF Tryz.prog 137 = true := by kernel_rfl
theorem wF : aF Tryz.prog 138 = true := by kernel_rfl
theorem aoM : aF Tryz.prog 141 = true := by kernel_rfl
theorem ahm : aF Tryz.prog 176 = true := by kernel_rfl
theorem aqd : aF Tryz.prog 177 = true := by kernel_rfl
theorem Rv : aF Tryz.prog 178 = true := by kernel_rfl
theorem apH : aF Tryz.prog 179 = true := by kernel_rfl
theorem ag5 : aF Tryz.prog 180 = true := by kernel_rfl
theorem aoZ : aF Tryz.prog 181 = true := by kernel_rfl
theorem ap6 : aF Tryz.prog 182 = true := by kernel_rfl
theorem ah1 : aF Tryz.prog 187 = true := by kernel_rfl
theorem ahU : aF Tryz.prog 190 = true := by kernel_rfl
theorem ahc : aF Tryz.prog 191 = true := by kernel_rfl
theorem apo : aF Tryz.prog 192 = true := by kernel_rfl
theorem apS : aF Tryz.prog 193 = true := by kernel_rfl
theorem aho : aF Tryz.prog 194 = true := by kernel_rfl
theorem ap1 : aF Tryz.prog 195 = true := by kernel_rfl
theorem aoj : aF Tryz.prog 196 = true := by kernel_rfl
theorem ap2 : aF Tryz.prog 197 = true := by kernel_rfl
theorem RI : aF Tryz.prog 198 = true := by kernel_rfl
theorem Ew : aF Tryz.prog 199 = true := by kernel_rfl
theorem LW : aF Tryz.prog 200 = true := by kernel_rfl
theorem ahN : aF Tryz.prog 201 = true := by kernel_rfl
theorem KT : aF Tryz.prog 202 = true := by kernel_rfl
theorem aio : aF Tryz.prog 203 = true := by kernel_rfl
theorem aow : aF Tryz.prog 204 = true := by kernel_rfl
theorem KA : aF Tryz.prog 205 = true := by kernel_rfl
theorem ag8 : aF Tryz.prog 206 = true := by kernel_rfl
theorem yZ : aF Tryz.prog 207 = true := by kernel_rfl
theorem Cz : aF Tryz.prog 208 = true := by kernel_rfl
theorem ap9 : aF Tryz.prog 209 = true := by kernel_rfl
theorem abC : aF Tryz.prog 210 = true := by kernel_rfl
theorem aoi : aF Tryz.prog 211 = true := by kernel_rfl
theorem aa4 : aF Tryz.prog 212 = true := by kernel_rfl
theorem aax : aF Tryz.prog 213 = true := by kernel_rfl
theorem aht : aF Tryz.prog 214 = true := by kernel_rfl
theorem ah3 : aF Tryz.prog 215 = true := by kernel_rfl
theorem ahR : aF Tryz.prog 216 = true := by kernel_rfl
theorem Rl : aF Tryz.prog 217 = true := by kernel_rfl
theorem aoS : aF Tryz.prog 218 = true := by kernel_rfl
theorem ahE : aF Tryz.prog 219 = true := by kernel_rfl
theorem aoY : aF Tryz.prog 220 = true := by kernel_rfl
theorem ao6 : aF Tryz.prog 221 = true := by kernel_rfl
theorem aps : aF Tryz.prog 222 = true := by kernel_rfl
theorem aqb : aF Tryz.prog 223 = true := by kernel_rfl
theorem aoI : aF Tryz.prog 224 = true := by kernel_rfl
theorem apr : aF Tryz.prog 225 = true := by kernel_rfl
theorem aon : aF Tryz.prog 226 = true := by kernel_rfl
theorem aox : aF Tryz.prog 227 = true := by kernel_rfl
theorem apB : aF Tryz.prog 228 = true := by kernel_rfl
theorem ap7 : aF Tryz.prog 229 = true := by kernel_rfl
theorem apK : aF Tryz.prog 230 = true := by kernel_rfl
theorem ao0 : aF Tryz.prog 231 = true := by kernel_rfl
theorem aoW : aF Tryz.prog 235 = true := by kernel_rfl
theorem apO : aF Tryz.prog 236 = true := by kernel_rfl
theorem apt : aF Tryz.prog 244 = true := by kernel_rfl
theorem Rm : aF Tryz.prog 245 = true := by kernel_rfl
theorem aiy : aF Tryz.prog 246 = true := by kernel_rfl
theorem aqh : aF Tryz.prog 247 = true := by kernel_rfl
theorem apa : aF Tryz.prog 248 = true := by kernel_rfl
theorem apQ : aF Tryz.prog 252 = true := by kernel_rfl
theorem aog : aF Tryz.prog 253 = true := by kernel_rfl
theorem apb : aF Tryz.prog 254 = true := by kernel_rfl
theorem apC : aF Tryz.prog 255 = true := by kernel_rfl
theorem aoF : aF Tryz.prog 256 = true := by kernel_rfl
theorem aoo : aF Tryz.prog 257 = true := by kernel_rfl
theorem apD : aF Tryz.prog 258 = true := by kernel_rfl
theorem oZ : aF Tryz.prog 259 = true := by kernel_rfl
theorem apd : aF Tryz.prog 260 = true := by kernel_rfl
theorem aok : aF Tryz.prog 261 = true := by kernel_rfl
theorem GL : aF Tryz.prog 262 = true := by kernel_rfl
theorem z8 : aF Tryz.prog 263 = true := by kernel_rfl
theorem Rz : aF Tryz.prog 264 = true := by kernel_rfl
theorem ZP : aF Tryz.prog 265 = true := by kernel_rfl
theorem aaT : aF Tryz.prog 266 = true := by kernel_rfl
theorem Rs : aF Tryz.prog 267 = true := by kernel_rfl
theorem apU : aF Tryz.prog 288 = true := by kernel_rfl
theorem rg {m id : Nat} {l : Array Oper} {dr : Bool} {Q : QT} {t : List AV} {h : List AObj} (r : Nat) (hr : rep r h fun h2 => VP h 0 fun k => Cq Tryz.prog τ l.toList l.toList k [] t h2 fun es t h => iE dr (yQ l.toList es = true ∧ Q .normal t h) (Q .normal t h)) : AW Tryz.prog m (.region id l dr) Q t h := AW.region aD oK r hr
attribute [simp] ren bW bK dJ ac4 acF ara aqo apR aee alc bN aQ aZ bS aB aN aA aG aP
abbrev AV.i (n : Int) : AV := .int .i64 n
abbrev aI (l : List Ty) : AV := .slice (List.map aK l) .shared
abbrev bn (l : List Tm) : AV := .slice (List.map aS l) .shared
abbrev bQ (l : List Str) : AV := .slice (List.map encS l) .shared
abbrev mE (l : List Int) : AV := .slice (List.map encI l) .shared
abbrev bU (l : List Decl) : AV := .slice (List.map aO l) .shared
abbrev bT (l : List Carrier) : AV := .slice (List.map aL l) .shared
abbrev dz (x : Env) : AV := .agg [bT x.carriers, bU x.names]
abbrev fP (m : List (Str × Ty)) : List (List UInt8 × AV) := List.map (fun p => (p.1, aV p.2)) m
abbrev eX (m : List (Str × Bool)) : List (List UInt8 × AV) := List.map (fun p => (p.1, AV.bool p.2)) m
theorem OW.mT {h : List AObj} {L : List (Option Nat)} {m : List (Str × Ty)} : OW h L (.mp (fP m)) (.mp (fP m)) := .same rfl (congrArg AObj.mp (dS (f := aV) (fun g x => by simp) _ _))
theorem OW.mB {h : List AObj} {L : List (Option Nat)} {m : List (Str × Bool)} : OW h L (.mp (eX m)) (.mp (eX m)) := .same rfl (congrArg AObj.mp (dS (f := AV.bool) (fun g x => rfl) _ _))
theorem nt {a b c : Nat} (e : a = b) (h : Nat.ble c b = true) : c ≤ a := e ▸ Nat.le_of_ble_eq_true h
theorem cp {P : Program} {f : Nat} {args : List AV} {dst : Option Tmp} {t : List AV} {h : List AObj} {k : Nat} {K : Nat → List Nat → List Wr → Prop} {aargs : List AV} {res : AV} (hc : ak P f aargs [] res []) (hok : aF P f = true) (hs : SWs args aargs) (hK : K k [] (aY dst res)) (ha : ∀ g, bW g aargs = aargs := by intro g; simp) (hr : ∀ g, ren g res = res := by intro g; simp) : ACallU P f args dst t h k K := au hc hok hs ha hr hK
end Abs
end Go.Proofs.YtiiaccpcoclklaaGreat

/-
  Structures of the program (printed by gen.py). Conditions: none.
-/
import Derived.KernelRfl
import Derived.Test.YtiiaccpcoclklaaGreatCData2x72b33f
set_option linter.unusedSimpArgs false
set_option linter.unusedVariables false
namespace Go.Proofs.YtiiaccpcoclklaaGreat
namespace Abs
open Go Go.Proofs
def rowC0 : List AV := [.nilFunc, .func 265 [.eptr [.int .i64 2, .str ([] : Str), .slice (List.map encTy ([])) .shared]], .func 265 [.eptr [.int .i64 2, .str ([] : Str), .slice (List.map encTy ([])) .shared]], .func 259 [.eptr [.int .i64 2, .str ([] : Str), .slice (List.map encTy ([])) .shared], .eptr [.int .i64 2]], .func 259 [.eptr [.int .i64 2, .str ([] : Str), .slice (List.map encTy ([])) .shared], .eptr [.int .i64 2]], .func 259 [.eptr [.int .i64 2, .str ([] : Str), .slice (List.map encTy ([])) .shared], .eptr [.int .i64 2]], .func 259 [.eptr [.int .i64 2, .str ([] : Str), .slice (List.map encTy ([])) .shared], .eptr [.int .i64 2]], .func 259 [.eptr [.int .i64 2, .str ([] : Str), .slice (List.map encTy ([])) .shared], .eptr [.int .i64 2]], .func 266 [.eptr [.func 214 []]], .func 266 [.eptr [.func 214 []]], .func 201 [], .func 201 [], .func 259 [.eptr [.int .i64 2, .str ([] : Str), .slice (List.map encTy ([])) .shared], .eptr [.int .i64 1]], .func 259 [.eptr [.int .i64 2, .str ([] : Str), .slice (List.map encTy ([])) .shared], .eptr [.int .i64 1]], .func 259 [.eptr [.int .i64 2, .str ([] : Str), .slice (List.map encTy ([])) .shared], .eptr [.int .i64 1]], .func 259 [.eptr [.int .i64 2, .str ([] : Str), .slice (List.map encTy ([])) .shared], .eptr [.int .i64 1]], .func 216 [], .func 216 [], .func 267 [.eptr [.func 214 []]], .func 265 [.eptr [.int .i64 1, .str ([] : Str), .slice (List.map encTy ([])) .shared]], .nilFunc, .func 259 [.eptr [.int .i64 1, .str ([] : Str), .slice (List.map encTy ([])) .shared], .eptr [.int .i64 1]], .func 259 [.eptr [.int .i64 1, .str ([] : Str), .slice (List.map encTy ([])) .shared], .eptr [.int .i64 1]], .func 259 [.eptr [.int .i64 1, .str ([] : Str), .slice (List.map encTy ([])) .shared], .eptr [.int .i64 1]], .func 259 [.eptr [.int .i64 1, .str ([] : Str), .slice (List.map encTy ([])) .shared], .eptr [.int .i64 1]], .func 259 [.eptr [.int .i64 1, .str ([] : Str), .slice (List.map encTy ([])) .shared], .eptr [.int .i64 1]], .func 259 [.eptr [.int .i64 1, .str ([] : Str), .slice (List.map encTy ([])) .shared], .eptr [.int .i64 1]], .func 218 [], .func 220 [], .nilFunc, .func 259 [.eptr [.int .i64 5, .str ([] : Str), .slice (List.map encTy ([(Ty.mk 1 ([] : Str) ([]))])) .shared], .eptr [.int .i64 1]], .func 267 [.eptr [.func 215 []]], .func 267 [.eptr [.func 215 []]], .func 267 [.eptr [.func 215 []]], .func 262 [.eptr [.func 205 []]], .func 263 [.eptr [.func 221 []]], .func 263 [.eptr [.func 222 []]], .func 206 [], .func 206 [], .func 263 [.eptr [.func 209 []]], .func 263 [.eptr [.func 209 []]], .func 262 [.eptr [.func 204 []]], .func 262 [.eptr [.func 204 []]], .func 262 [.eptr [.func 204 []]], .func 262 [.eptr [.func 204 []]], .func 262 [.eptr [.func 204 []]], .func 264 [.eptr [.func 223 []]], .func 264 [.eptr [.func 224 []]], .func 264 [.eptr [.func 211 []]], .func 264 [.eptr [.func 211 []]], .func 263 [.eptr [.func 225 []]], .func 263 [.eptr [.func 226 []]], .func 263 [.eptr [.func 227 []]], .func 263 [.eptr [.func 228 []]], .func 263 [.eptr [.func 229 []]], .func 266 [.eptr [.func 215 []]], .func 230 []]
theorem rowC0_ren (g : Nat → Nat) : renL g rowC0 = rowC0 := by simp only [rowC0, ren, renL, renLL, renT, renl_I, renl_S, renl_U8, renl_Ty, renl_Tm, renl_Carrier, renl_Decl]
theorem okF_16 : okFn Tryz.prog 16 = true := by kernel_rfl
theorem okF_18 : okFn Tryz.prog 18 = true := by kernel_rfl
theorem okF_19 : okFn Tryz.prog 19 = true := by kernel_rfl
theorem okF_20 : okFn Tryz.prog 20 = true := by kernel_rfl
theorem okF_21 : okFn Tryz.prog 21 = true := by kernel_rfl
theorem okF_42 : okFn Tryz.prog 42 = true := by kernel_rfl
theorem okF_45 : okFn Tryz.prog 45 = true := by kernel_rfl
theorem okF_48 : okFn Tryz.prog 48 = true := by kernel_rfl
theorem okF_50 : okFn Tryz.prog 50 = true := by kernel_rfl
theorem okF_55 : okFn Tryz.prog 55 = true := by kernel_rfl
theorem okF_56 : okFn Tryz.prog 56 = true := by kernel_rfl
theorem okF_58 : okFn Tryz.prog 58 = true := by kernel_rfl
theorem okF_62 : okFn Tryz.prog 62 = true := by kernel_rfl
theorem okF_63 : okFn Tryz.prog 63 = true := by kernel_rfl
theorem okF_64 : okFn Tryz.prog 64 = true := by kernel_rfl
theorem okF_65 : okFn Tryz.prog 65 = true := by kernel_rfl
theorem okF_66 : okFn Tryz.prog 66 = true := by kernel_rfl
theorem okF_67 : okFn Tryz.prog 67 = true := by kernel_rfl
theorem okF_68 : okFn Tryz.prog 68 = true := by kernel_rfl
theorem okF_70 : okFn Tryz.prog 70 = true := by kernel_rfl
theorem okF_71 : okFn Tryz.prog 71 = true := by kernel_rfl
theorem okF_72 : okFn Tryz.prog 72 = true := by kernel_rfl
theorem okF_73 : okFn Tryz.prog 73 = true := by kernel_rfl
theorem okF_79 : okFn Tryz.prog 79 = true := by kernel_rfl
theorem okF_92 : okFn Tryz.prog 92 = true := by kernel_rfl
theorem okF_93 : okFn Tryz.prog 93 = true := by kernel_rfl
theorem okF_94 : okFn Tryz.prog 94 = true := by kernel_rfl
theorem okF_95 : okFn Tryz.prog 95 = true := by kernel_rfl
theorem okF_96 : okFn Tryz.prog 96 = true := by kernel_rfl
theorem okF_97 : okFn Tryz.prog 97 = true := by kernel_rfl
theorem okF_99 : okFn Tryz.prog 99 = true := by kernel_rfl
theorem okF_101 : okFn Tryz.prog 101 = true := by kernel_rfl
theorem okF_103 : okFn Tryz.prog 103 = true := by kernel_rfl
theorem okF_107 : okFn Tryz.prog 107 = true := by kernel_rfl
theorem okF_110 : okFn Tryz.prog 110 = true := by kernel_rfl
theorem okF_111 : okFn Tryz.prog 111 = true := by kernel_rfl
theorem okF_112 : okFn Tryz.prog 112 = true := by kernel_rfl
theorem okF_114 : okFn Tryz.prog 114 = true := by kernel_rfl
theorem okF_116 : okFn Tryz.prog 116 = true := by kernel_rfl
theorem okF_117 : okFn Tryz.prog 117 = true := by kernel_rfl
theorem okF_118 : okFn Tryz.prog 118 = true := by kernel_rfl
theorem okF_120 : okFn Tryz.prog 120 = true := by kernel_rfl
theorem okF_121 : okFn Tryz.prog 121 = true := by kernel_rfl
theorem okF_122 : okFn Tryz.prog 122 = true := by kernel_rfl
theorem okF_123 : okFn Tryz.prog 123 = true := by kernel_rfl
theorem okF_128 : okFn Tryz.prog 128 = true := by kernel_rfl
theorem okF_129 : okFn Tryz.prog 129 = true := by kernel_rfl
theorem okF_130 : okFn Tryz.prog 130 = true := by kernel_rfl
theorem okF_131 : okFn Tryz.prog 131 = true := by kernel_rfl
theorem okF_132 : okFn Tryz.prog 132 = true := by kernel_rfl
theorem okF_133 : okFn Tryz.prog 133 = true := by kernel_rfl
theorem okF_134 : okFn Tryz.prog 134 = true := by kernel_rfl
theorem okF_135 : okFn Tryz.prog 135 = true := by kernel_rfl
theorem okF_136 : okFn Tryz.prog 136 = true := by kernel_rfl
theorem okF_137 : okFn Tryz.prog 137 = true := by kernel_rfl
theorem okF_138 : okFn Tryz.prog 138 = true := by kernel_rfl
theorem okF_139 : okFn Tryz.prog 139 = true := by kernel_rfl
theorem okF_140 : okFn Tryz.prog 140 = true := by kernel_rfl
theorem okF_141 : okFn Tryz.prog 141 = true := by kernel_rfl
theorem okF_176 : okFn Tryz.prog 176 = true := by kernel_rfl
theorem okF_177 : okFn Tryz.prog 177 = true := by kernel_rfl
theorem okF_178 : okFn Tryz.prog 178 = true := by kernel_rfl
theorem okF_179 : okFn Tryz.prog 179 = true := by kernel_rfl
theorem okF_180 : okFn Tryz.prog 180 = true := by kernel_rfl
theorem okF_181 : okFn Tryz.prog 181 = true := by kernel_rfl
theorem okF_182 : okFn Tryz.prog 182 = true := by kernel_rfl
theorem okF_186 : okFn Tryz.prog 186 = true := by kernel_rfl
theorem okF_187 : okFn Tryz.prog 187 = true := by kernel_rfl
theorem okF_190 : okFn Tryz.prog 190 = true := by kernel_rfl
theorem okF_191 : okFn Tryz.prog 191 = true := by kernel_rfl
theorem okF_192 : okFn Tryz.prog 192 = true := by kernel_rfl
theorem okF_193 : okFn Tryz.prog 193 = true := by kernel_rfl
theorem okF_194 : okFn Tryz.prog 194 = true := by kernel_rfl
theorem okF_195 : okFn Tryz.prog 195 = true := by kernel_rfl
theorem okF_196 : okFn Tryz.prog 196 = true := by kernel_rfl
theorem okF_197 : okFn Tryz.prog 197 = true := by kernel_rfl
theorem okF_198 : okFn Tryz.prog 198 = true := by kernel_rfl
theorem okF_199 : okFn Tryz.prog 199 = true := by kernel_rfl
theorem okF_200 : okFn Tryz.prog 200 = true := by kernel_rfl
theorem okF_201 : okFn Tryz.prog 201 = true := by kernel_rfl
theorem okF_202 : okFn Tryz.prog 202 = true := by kernel_rfl
theorem okF_203 : okFn Tryz.prog 203 = true := by kernel_rfl
theorem okF_204 : okFn Tryz.prog 204 = true := by kernel_rfl
theorem okF_205 : okFn Tryz.prog 205 = true := by kernel_rfl
theorem okF_206 : okFn Tryz.prog 206 = true := by kernel_rfl
theorem okF_207 : okFn Tryz.prog 207 = true := by kernel_rfl
theorem okF_208 : okFn Tryz.prog 208 = true := by kernel_rfl
theorem okF_209 : okFn Tryz.prog 209 = true := by kernel_rfl
theorem okF_210 : okFn Tryz.prog 210 = true := by kernel_rfl
theorem okF_211 : okFn Tryz.prog 211 = true := by kernel_rfl
theorem okF_212 : okFn Tryz.prog 212 = true := by kernel_rfl
theorem okF_213 : okFn Tryz.prog 213 = true := by kernel_rfl
theorem okF_214 : okFn Tryz.prog 214 = true := by kernel_rfl
theorem okF_215 : okFn Tryz.prog 215 = true := by kernel_rfl
theorem okF_216 : okFn Tryz.prog 216 = true := by kernel_rfl
theorem okF_217 : okFn Tryz.prog 217 = true := by kernel_rfl
theorem okF_218 : okFn Tryz.prog 218 = true := by kernel_rfl
theorem okF_219 : okFn Tryz.prog 219 = true := by kernel_rfl
theorem okF_220 : okFn Tryz.prog 220 = true := by kernel_rfl
theorem okF_221 : okFn Tryz.prog 221 = true := by kernel_rfl
theorem okF_222 : okFn Tryz.prog 222 = true := by kernel_rfl
theorem okF_223 : okFn Tryz.prog 223 = true := by kernel_rfl
theorem okF_224 : okFn Tryz.prog 224 = true := by kernel_rfl
theorem okF_225 : okFn Tryz.prog 225 = true := by kernel_rfl
theorem okF_226 : okFn Tryz.prog 226 = true := by kernel_rfl
theorem okF_227 : okFn Tryz.prog 227 = true := by kernel_rfl
theorem okF_228 : okFn Tryz.prog 228 = true := by kernel_rfl
theorem okF_229 : okFn Tryz.prog 229 = true := by kernel_rfl
theorem okF_230 : okFn Tryz.prog 230 = true := by kernel_rfl
theorem okF_231 : okFn Tryz.prog 231 = true := by kernel_rfl
theorem okF_232 : okFn Tryz.prog 232 = true := by kernel_rfl
theorem okF_233 : okFn Tryz.prog 233 = true := by kernel_rfl
theorem okF_234 : okFn Tryz.prog 234 = true := by kernel_rfl
theorem okF_235 : okFn Tryz.prog 235 = true := by kernel_rfl
theorem okF_236 : okFn Tryz.prog 236 = true := by kernel_rfl
theorem okF_244 : okFn Tryz.prog 244 = true := by kernel_rfl
theorem okF_245 : okFn Tryz.prog 245 = true := by kernel_rfl
theorem okF_246 : okFn Tryz.prog 246 = true := by kernel_rfl
theorem okF_247 : okFn Tryz.prog 247 = true := by kernel_rfl
theorem okF_248 : okFn Tryz.prog 248 = true := by kernel_rfl
theorem okF_252 : okFn Tryz.prog 252 = true := by kernel_rfl
theorem okF_253 : okFn Tryz.prog 253 = true := by kernel_rfl
theorem okF_254 : okFn Tryz.prog 254 = true := by kernel_rfl
theorem okF_255 : okFn Tryz.prog 255 = true := by kernel_rfl
theorem okF_256 : okFn Tryz.prog 256 = true := by kernel_rfl
theorem okF_257 : okFn Tryz.prog 257 = true := by kernel_rfl
theorem okF_258 : okFn Tryz.prog 258 = true := by kernel_rfl
theorem okF_259 : okFn Tryz.prog 259 = true := by kernel_rfl
theorem okF_260 : okFn Tryz.prog 260 = true := by kernel_rfl
theorem okF_261 : okFn Tryz.prog 261 = true := by kernel_rfl
theorem okF_262 : okFn Tryz.prog 262 = true := by kernel_rfl
theorem okF_263 : okFn Tryz.prog 263 = true := by kernel_rfl
theorem okF_264 : okFn Tryz.prog 264 = true := by kernel_rfl
theorem okF_265 : okFn Tryz.prog 265 = true := by kernel_rfl
theorem okF_266 : okFn Tryz.prog 266 = true := by kernel_rfl
theorem okF_267 : okFn Tryz.prog 267 = true := by kernel_rfl
theorem okF_268 : okFn Tryz.prog 268 = true := by kernel_rfl
theorem okF_269 : okFn Tryz.prog 269 = true := by kernel_rfl
theorem okF_270 : okFn Tryz.prog 270 = true := by kernel_rfl
theorem okF_271 : okFn Tryz.prog 271 = true := by kernel_rfl
theorem okF_288 : okFn Tryz.prog 288 = true := by kernel_rfl
theorem rg {m id : Nat} {l : Array Oper} {dr : Bool} {Q : QT} {t : List AV} {h : List AObj} (r : Nat) (hr : rep r h fun h2 => fLen h 0 fun k => runU Tryz.prog τ l.toList l.toList k [] t h2 fun es t h => onB dr (okOrder l.toList es = true ∧ Q .normal t h) (Q .normal t h)) : AW Tryz.prog m (.region id l dr) Q t h := AW.region τ_ok mixedO r hr
attribute [simp] ren renL renLL renT ren_encTy ren_encTm renE_I renE_S renE_U8 renE_Carrier renE_Decl renL_app renl_I renl_S renl_U8 renl_Ty renl_Tm renl_Carrier renl_Decl rowC0_ren
abbrev AV.i (n : Int) : AV := .int .i64 n
abbrev sTy (l : List Ty) : AV := .slice (List.map encTy l) .shared
abbrev sTm (l : List Tm) : AV := .slice (List.map encTm l) .shared
abbrev sSt (l : List Str) : AV := .slice (List.map encS l) .shared
abbrev sIn (l : List Int) : AV := .slice (List.map encI l) .shared
abbrev sDe (l : List Decl) : AV := .slice (List.map encDecl l) .shared
abbrev sCa (l : List Carrier) : AV := .slice (List.map encCarrier l) .shared
abbrev aEnv (x : Env) : AV := .agg [sCa x.carriers, sDe x.names]
abbrev mTy (m : List (Str × Ty)) : List (List UInt8 × AV) := List.map (fun p => (p.1, aTy p.2)) m
abbrev mBo (m : List (Str × Bool)) : List (List UInt8 × AV) := List.map (fun p => (p.1, AV.bool p.2)) m
theorem OW.mT {h : List AObj} {L : List (Option Nat)} {m : List (Str × Ty)} : OW h L (.mp (mTy m)) (.mp (mTy m)) := .same rfl (congrArg AObj.mp (renm (f := aTy) (fun g x => by simp) _ _))
theorem OW.mB {h : List AObj} {L : List (Option Nat)} {m : List (Str × Bool)} : OW h L (.mp (mBo m)) (.mp (mBo m)) := .same rfl (congrArg AObj.mp (renm (f := AV.bool) (fun g x => rfl) _ _))
theorem nt {a b c : Nat} (e : a = b) (h : Nat.ble c b = true) : c ≤ a := e ▸ Nat.le_of_ble_eq_true h
theorem cp {P : Program} {f : Nat} {args : List AV} {dst : Option Tmp} {t : List AV} {h : List AObj} {k : Nat} {K : Nat → List Nat → List Wr → Prop} {aargs : List AV} {res : AV} (hc : ACalls P f aargs [] res []) (hok : okFn P f = true) (hs : SWs args aargs) (hK : K k [] (toDst dst res)) (ha : ∀ g, renL g aargs = aargs := by intro g; simp) (hr : ∀ g, ren g res = res := by intro g; simp) : ACallU P f args dst t h k K := call_pur hc hok hs ha hr hK
end Abs
end Go.Proofs.YtiiaccpcoclklaaGreat

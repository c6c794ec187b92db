/-
  Structures of the program (printed by gen.py). Conditions: none.
-/
import Derived.KernelRfl
import Derived.Test.YtiiaccpcoclklaaGreatCDgox2531f9
set_option linter.unusedSimpArgs false
set_option linter.unusedVariables false
namespace Go.Proofs.YtiiaccpcoclklaaGreat
namespace Abs
open Go Go.Proofs
def eU : List AV := [.nilFunc, .func 265 [.eptr [.int .i64 2, .str ([] : Str), .slice (List.map aI ([])) .shared]], .func 265 [.eptr [.int .i64 2, .str ([] : Str), .slice (List.map aI ([])) .shared]], .func 259 [.eptr [.int .i64 2, .str ([] : Str), .slice (List.map aI ([])) .shared], .eptr [.int .i64 2]], .func 259 [.eptr [.int .i64 2, .str ([] : Str), .slice (List.map aI ([])) .shared], .eptr [.int .i64 2]], .func 259 [.eptr [.int .i64 2, .str ([] : Str), .slice (List.map aI ([])) .shared], .eptr [.int .i64 2]], .func 259 [.eptr [.int .i64 2, .str ([] : Str), .slice (List.map aI ([])) .shared], .eptr [.int .i64 2]], .func 259 [.eptr [.int .i64 2, .str ([] : Str), .slice (List.map aI ([])) .shared], .eptr [.int .i64 2]], .func 266 [.eptr [.func 214 []]], .func 266 [.eptr [.func 214 []]], .func 201 [], .func 201 [], .func 259 [.eptr [.int .i64 2, .str ([] : Str), .slice (List.map aI ([])) .shared], .eptr [.int .i64 1]], .func 259 [.eptr [.int .i64 2, .str ([] : Str), .slice (List.map aI ([])) .shared], .eptr [.int .i64 1]], .func 259 [.eptr [.int .i64 2, .str ([] : Str), .slice (List.map aI ([])) .shared], .eptr [.int .i64 1]], .func 259 [.eptr [.int .i64 2, .str ([] : Str), .slice (List.map aI ([])) .shared], .eptr [.int .i64 1]], .func 216 [], .func 216 [], .func 267 [.eptr [.func 214 []]], .func 265 [.eptr [.int .i64 1, .str ([] : Str), .slice (List.map aI ([])) .shared]], .nilFunc, .func 259 [.eptr [.int .i64 1, .str ([] : Str), .slice (List.map aI ([])) .shared], .eptr [.int .i64 1]], .func 259 [.eptr [.int .i64 1, .str ([] : Str), .slice (List.map aI ([])) .shared], .eptr [.int .i64 1]], .func 259 [.eptr [.int .i64 1, .str ([] : Str), .slice (List.map aI ([])) .shared], .eptr [.int .i64 1]], .func 259 [.eptr [.int .i64 1, .str ([] : Str), .slice (List.map aI ([])) .shared], .eptr [.int .i64 1]], .func 259 [.eptr [.int .i64 1, .str ([] : Str), .slice (List.map aI ([])) .shared], .eptr [.int .i64 1]], .func 259 [.eptr [.int .i64 1, .str ([] : Str), .slice (List.map aI ([])) .shared], .eptr [.int .i64 1]], .func 218 [], .func 220 [], .nilFunc, .func 259 [.eptr [.int .i64 5, .str ([] : Str), .slice (List.map aI ([(Ty.mk 1 ([] : Str) ([]))])) .shared], .eptr [.int .i64 1]], .func 267 [.eptr [.func 215 []]], .func 267 [.eptr [.func 215 []]], .func 267 [.eptr [.func 215 []]], .func 262 [.eptr [.func 205 []]], .func 263 [.eptr [.func 221 []]], .func 263 [.eptr [.func 222 []]], .func 206 [], .func 206 [], .func 263 [.eptr [.func 209 []]], .func 263 [.eptr [.func 209 []]], .func 262 [.eptr [.func 204 []]], .func 262 [.eptr [.func 204 []]], .func 262 [.eptr [.func 204 []]], .func 262 [.eptr [.func 204 []]], .func 262 [.eptr [.func 204 []]], .func 264 [.eptr [.func 223 []]], .func 264 [.eptr [.func 224 []]], .func 264 [.eptr [.func 211 []]], .func 264 [.eptr [.func 211 []]], .func 263 [.eptr [.func 225 []]], .func 263 [.eptr [.func 226 []]], .func 263 [.eptr [.func 227 []]], .func 263 [.eptr [.func 228 []]], .func 263 [.eptr [.func 229 []]], .func 266 [.eptr [.func 215 []]], .func 230 []]
theorem aP (g : Nat → Nat) : bS g eU = eU := by simp only [eU, ren, bS, bK, dM, aQ, aY, bQ, aA, aK, au, aF]
theorem rg {m id : Nat} {l : Array Oper} {dr : Bool} {Q : QT} {t : List AV} {h : List AObj} (r : Nat) (hr : rep r h fun h2 => Qh h 0 fun k => Cz Tryz.prog τ l.toList l.toList k [] t h2 fun es t h => jg dr (xJ l.toList es = true ∧ Q .normal t h) (Q .normal t h)) : AW Tryz.prog m (.region id l dr) Q t h := AW.region dJ qY r hr
attribute [simp] ren bS bK dM af9 agk atr atQ as1 aiV ao2 bO aQ aY bQ aA aK au aF aP
abbrev AV.i (n : Int) : AV := .int .i64 n
abbrev aH (l : List Ty) : AV := .slice (List.map aI l) .shared
abbrev aZ (l : List Tm) : AV := .slice (List.map aN l) .shared
abbrev bX (l : List Str) : AV := .slice (List.map encS l) .shared
abbrev sI (l : List Int) : AV := .slice (List.map encI l) .shared
abbrev bW (l : List Decl) : AV := .slice (List.map aO l) .shared
abbrev bT (l : List Carrier) : AV := .slice (List.map aL l) .shared
abbrev dR (x : Env) : AV := .agg [bT x.carriers, bW x.names]
abbrev iW (m : List (Str × Ty)) : List (List UInt8 × AV) := List.map (fun p => (p.1, bn p.2)) m
abbrev iB (m : List (Str × Bool)) : List (List UInt8 × AV) := List.map (fun p => (p.1, AV.bool p.2)) m
theorem OW.mT {h : List AObj} {L : List (Option Nat)} {m : List (Str × Ty)} : OW h L (.mp (iW m)) (.mp (iW m)) := .same rfl (congrArg AObj.mp (eu (f := bn) (fun g x => by simp) _ _))
theorem OW.mB {h : List AObj} {L : List (Option Nat)} {m : List (Str × Bool)} : OW h L (.mp (iB m)) (.mp (iB m)) := .same rfl (congrArg AObj.mp (eu (f := AV.bool) (fun g x => rfl) _ _))
theorem nt {a b c : Nat} (e : a = b) (h : Nat.ble c b = true) : c ≤ a := e ▸ Nat.le_of_ble_eq_true h
theorem cp {P : Program} {f : Nat} {args : List AV} {dst : Option Tmp} {t : List AV} {h : List AObj} {k : Nat} {K : Nat → List Nat → List Wr → Prop} {aargs : List AV} {res : AV} (hc : aB P f aargs [] res []) (hok : aC P f = true) (hs : SWs args aargs) (hK : K k [] (aX dst res)) (ha : ∀ g, bS g aargs = aargs := by intro g; simp) (hr : ∀ g, ren g res = res := by intro g; simp) : ACallU P f args dst t h k K := aj hc hok hs ha hr hK
theorem fin {p : Prop} (h : p := by (conv => whnf) <;> first | rfl | (simp; done) | (simp; rfl) | (simp; and_intros <;> rfl)) : p := h
theorem rp {rs : List ResultVar} {wk : Bool} {res : AV} {t : List AV} {h : List AObj} (hr : ∀ g, ren g res = res := by intro g; first | rfl | simp) (hq : resT τ t h rs fun xs => Mj (D7 wk xs) fun v => Ends v res := by (conv => whnf) <;> try rfl) : ZJ Tryz.prog rs wk [] res [] t h := Ig dJ hr hq
theorem rI {rs : List ResultVar} {wk : Bool} {H H' : List AObj} {res : AV} {t : List AV} {h : List AObj} (L : List Nat) (hL : amF H.length h.length L = true := by rfl) (hO : RetOs (nm L h.length) h L H' := by first | exact .cons rfl .nil | exact .nil) (hq : resT τ t h rs fun xs => Mj (D7 wk xs) fun v => Ends v (ren (nm L h.length) res) := by exact fin) : ZJ Tryz.prog rs wk H res H' t h := .inl (dA dJ L hL hO hq)
theorem okX : ((List.range 302).all fun f => !(Nat.blt 1 f) || aC Tryz.prog f) = true := by kernel_rfl
theorem aM {f : Nat} (h : (Nat.blt 1 f && Nat.blt f 302) = true := by rfl) : aC Tryz.prog f = true := by
 simp only [Bool.and_eq_true] at h
 have := List.all_eq_true.1 okX f (List.mem_range.2 (Nat.le_of_ble_eq_true h.2))
 simpa [h.1] using this
theorem cg {f : Nat} {args : List AV} {dst : Option Tmp} {t : List AV} {h : List AObj} {k : Nat} {K : Nat → List Nat → List Wr → Prop} (ρ ks : List Nat) (aargs : List AV) {H H' : List AObj} {res : AV} (hc : aB Tryz.prog f aargs H res H') (rn : AV) (Hn : List AObj) (hK : K (k + ks.length) (ρ ++ ks) (wS (ρ ++ ks) Hn ++ aX dst rn)) (hok : aC Tryz.prog f = true := by exact aM) (hp : ahP h ρ ks H'.length = true := by rfl) (hO : PassO (nm (ρ ++ ks) h.length) h ρ H := by first | exact .cons rfl .nil | exact .nil) (ha : bS (nm (ρ ++ ks) h.length) aargs = aargs := by first | rfl | (simp; try decide)) (hs : SWs args aargs := by first | exact .cons (.same _) .nil | exact .cons (.same _) (.cons (.same _) .nil) | exact .cons (.same _) (.cons (.same _) (.cons (.same _) .nil)) | exact .cons (.same _) (.cons (.same _) (.cons (.same _) (.cons (.same _) .nil)))) (hr : ren (nm (ρ ++ ks) h.length) res = rn := by first | rfl | (simp; try decide)) (hH : Mg (nm (ρ ++ ks) h.length) H' = Hn := by exact bN rfl rfl) : ACallU Tryz.prog f args dst t h k K := bZ ρ ks aargs aargs hc hok hp hO ha hs hr hH hK
theorem cP {f : Nat} {args : List AV} {dst : Option Tmp} {t : List AV} {h : List AObj} {k : Nat} {K : Nat → List Nat → List Wr → Prop} {aargs : List AV} {res : AV} (hc : aB Tryz.prog f aargs [] res []) (hK : K k [] (aX dst res)) (hok : aC Tryz.prog f = true := by exact aM) (hs : SWs args aargs := by repeat (first | exact .nil | refine .cons (.same _) ?_ | refine .cons (.share _ _) ?_)) (ha : ∀ g, bS g aargs = aargs := by intro g; simp) (hr : ∀ g, ren g res = res := by intro g; simp) : ACallU Tryz.prog f args dst t h k K := aj hc hok hs ha hr hK
theorem AW.r {m id : Nat} {l : Array Oper} {dr : Bool} {y : Code} {Q : QT} {t : List AV} {h : List AObj} (hw : ∀ K : List AV → List AObj → Prop, (∀ t h, AW Tryz.prog m y Q t h → K t h) → rep 0 h fun h2 => Qh h 0 fun k => Cz Tryz.prog τ l.toList l.toList k [] t h2 fun es t h => jg dr (xJ l.toList es = true ∧ K t h) (K t h)) : AW Tryz.prog m (.seq (.region id l dr) y) Q t h := .q fun K k => rg 0 (hw K k)
theorem AW.r1 {m id : Nat} {l : Array Oper} {dr : Bool} {y : Code} {Q : QT} {t : List AV} {h : List AObj} (hw : ∀ K : List AV → List AObj → Prop, (∀ t h, AW Tryz.prog m y Q t h → K t h) → rep 1 h fun h2 => Qh h 0 fun k => Cz Tryz.prog τ l.toList l.toList k [] t h2 fun es t h => jg dr (xJ l.toList es = true ∧ K t h) (K t h)) : AW Tryz.prog m (.seq (.region id l dr) y) Q t h := .q fun K k => rg 1 (hw K k)
def pV (x : S_refinementref01_token) : List AV := [.int .i64 x.kind, .str x.s, .int .i64 x.at_]
theorem Ij (g : Nat → Nat) (l : List S_refinementref01_token) : bK g (l.map pV) = l.map pV := Dp (fun g x => by simp only [pV, bS, ren, dM, aQ, aY, bQ, aA, aK, au, aF]) g l
attribute [simp] Ij
end Abs
end Go.Proofs.YtiiaccpcoclklaaGreat
namespace Go.Proofs.YtiiaccpcoclklaaGreat
namespace Abs
open Go Go.Proofs
set_option maxRecDepth 100000
set_option maxHeartbeats 40000000
abbrev qav (qdl : Ty → Option Str) : Prop := ∀ (p0 : Ty) (r : Str), qdl p0 = some r → aB Tryz.prog 163 [bn p0] [] (.str r) []
theorem RN (n : Nat) (qdl : Ty → Option Str) (qbu : qav qdl) (p0 : Ty) (r : Str) (h : qc n qdl p0 = some r) : aB Tryz.prog 163 [bn p0] [] (.str r) [] := by
 unfold qc at h
 refine ah true Tryz.func163 rfl (nt Tryz.ntmps163 rfl) fun Q hQ t ht => ?_
 conv at ht => whnf
 subst ht
 refine .r1 fun K1 k1 => (k1 _ _ ?_)
 refine .q fun K2 k2 => .r fun K3 k3 => (k3 _ _ ?_)
 refine .block (.r fun K4 k4 => ?_)
 refine k4 _ _ (.ak rfl h (fun hc1 h => ?_) (fun hc1 h => ?_))
 ·refine .r fun K5 k5 => (k5 _ _ ?_)
  refine .ret ?_
  obtain rfl := sj h
  exact hQ _ _ _ rp
 refine .r fun K6 k6 => (k6 _ _ ?_)
 refine .ak rfl h (fun hc2 h => ?_) (fun hc2 h => ?_)
 ·refine .r fun K7 k7 => (k7 _ _ ?_)
  refine .ret ?_
  obtain rfl := sj h
  exact hQ _ _ _ rp
 refine .r fun K8 k8 => (k8 _ _ ?_)
 refine .ak rfl h (fun hc3 h => ?_) (fun hc3 h => ?_)
 ·refine .r fun K9 k9 => ?_
  obtain ⟨x1, hx1, h⟩ := ob h
  refine aG (l := p0.kids) (f := aI) (cs := [.i ((x1).kind), .str ((x1).name), aH ((x1).kids)]) hx1 (aR x1) rfl ?_
  obtain ⟨x2, hx2, h⟩ := ob h
  refine aj (qbu _ _ hx2) aM (.cons (.same _) .nil) (fun g => by simp) (fun g => rfl) ?_
  obtain ⟨x3, hx3, h⟩ := ob h
  refine dV hx3 ?_
  obtain ⟨x4, hx4, h⟩ := ob h
  refine dV hx4 (k9 _ _ ?_)
  refine .ret ?_
  obtain rfl := sj h
  exact hQ _ _ _ rp
 refine .r fun K10 k10 => (k10 _ _ ?_)
 refine .ak rfl h (fun hc4 h => ?_) (fun hc4 h => ?_)
 ·refine .r fun K11 k11 => ?_
  obtain ⟨x5, hx5, h⟩ := ob h
  refine aG (l := p0.kids) (f := aI) (cs := [.i ((x5).kind), .str ((x5).name), aH ((x5).kids)]) hx5 (aR x5) rfl ?_
  obtain ⟨x6, hx6, h⟩ := ob h
  refine aj (qbu _ _ hx6) aM (.cons (.same _) .nil) (fun g => by simp) (fun g => rfl) ?_
  obtain ⟨x7, hx7, h⟩ := ob h
  refine dV hx7 ?_
  obtain ⟨x8, hx8, h⟩ := ob h
  refine dV hx8 ?_
  obtain ⟨x9, hx9, h⟩ := ob h
  refine aG (l := p0.kids) (f := aI) (cs := [.i ((x9).kind), .str ((x9).name), aH ((x9).kids)]) hx9 (aR x9) rfl ?_
  obtain ⟨x10, hx10, h⟩ := ob h
  refine aj (qbu _ _ hx10) aM (.cons (.same _) .nil) (fun g => by simp) (fun g => rfl) ?_
  obtain ⟨x11, hx11, h⟩ := ob h
  refine dV hx11 ?_
  obtain ⟨x12, hx12, h⟩ := ob h
  refine dV hx12 (⟨rfl, ?_⟩)
  refine k11 _ _ (.ret ?_)
  obtain rfl := sj h
  exact hQ _ _ _ rp
 refine .skip (k2 _ _ ?_)
 refine .r fun K12 k12 => (k12 _ _ ?_)
 refine .ret ?_
 obtain rfl := sj h
 exact hQ _ _ _ rp
theorem ab7 (n : Nat) : qav (qL n) := by
 induction n with
 | zero => exact (fun p0 r h => by unfold qL at h; cases h)
 | succ n ih =>
  exact (fun p0 r h => RN n _ ih p0 r (by unfold qL at h; exact h))
theorem ae0 (n : Nat) : qav (qL n) := (ab7 n)
theorem TG (n : Nat) (p0 : Int) (r : Str) (h : Ct n p0 = some r) : aB Tryz.prog 165 [.i p0] [] (.str r) [] := by
 unfold Ct at h
 refine ah true Tryz.func165 rfl (nt Tryz.ntmps165 rfl) fun Q hQ t ht => ?_
 conv at ht => whnf
 subst ht
 refine .r fun K1 k1 => (k1 _ _ ?_)
 refine .q fun K2 k2 => .r fun K3 k3 => (k3 _ _ ?_)
 refine .block (.r fun K4 k4 => ?_)
 refine k4 _ _ (.ak rfl h (fun hc1 h => ?_) (fun hc1 h => ?_))
 ·refine .r fun K5 k5 => (k5 _ _ ?_)
  refine .ret ?_
  obtain rfl := sj h
  exact hQ _ _ _ rp
 refine .r fun K6 k6 => (k6 _ _ ?_)
 refine .ak rfl h (fun hc2 h => ?_) (fun hc2 h => ?_)
 ·refine .r fun K7 k7 => (k7 _ _ ?_)
  refine .ret ?_
  obtain rfl := sj h
  exact hQ _ _ _ rp
 refine .r fun K8 k8 => (k8 _ _ ?_)
 refine .ak rfl h (fun hc3 h => ?_) (fun hc3 h => ?_)
 ·refine .r fun K9 k9 => (k9 _ _ ?_)
  refine .ret ?_
  obtain rfl := sj h
  exact hQ _ _ _ rp
 refine .r fun K10 k10 => (k10 _ _ ?_)
 refine .ak rfl h (fun hc4 h => ?_) (fun hc4 h => ?_)
 ·refine .r fun K11 k11 => (k11 _ _ ?_)
  refine .ret ?_
  obtain rfl := sj h
  exact hQ _ _ _ rp
 refine .r fun K12 k12 => (k12 _ _ ?_)
 refine .ak rfl h (fun hc5 h => ?_) (fun hc5 h => ?_)
 ·refine .r fun K13 k13 => (k13 _ _ ?_)
  refine .ret ?_
  obtain rfl := sj h
  exact hQ _ _ _ rp
 refine .r fun K14 k14 => (k14 _ _ ?_)
 refine .ak rfl h (fun hc6 h => ?_) (fun hc6 h => ?_)
 ·refine .r fun K15 k15 => (k15 _ _ ?_)
  refine .ret ?_
  obtain rfl := sj h
  exact hQ _ _ _ rp
 refine .r fun K16 k16 => (k16 _ _ ?_)
 refine .ak rfl h (fun hc7 h => ?_) (fun hc7 h => ?_)
 ·refine .r fun K17 k17 => (k17 _ _ ?_)
  refine .ret ?_
  obtain rfl := sj h
  exact hQ _ _ _ rp
 refine .r fun K18 k18 => (k18 _ _ ?_)
 refine .ak rfl h (fun hc8 h => ?_) (fun hc8 h => ?_)
 ·refine .r fun K19 k19 => (k19 _ _ ?_)
  refine .ret ?_
  obtain rfl := sj h
  exact hQ _ _ _ rp
 refine .r fun K20 k20 => (k20 _ _ ?_)
 refine .ak rfl h (fun hc9 h => ?_) (fun hc9 h => ?_)
 ·refine .r fun K21 k21 => (k21 _ _ ?_)
  refine .ret ?_
  obtain rfl := sj h
  exact hQ _ _ _ rp
 refine .r fun K22 k22 => (k22 _ _ ?_)
 refine .ak rfl h (fun hc10 h => ?_) (fun hc10 h => ?_)
 ·refine .r fun K23 k23 => (k23 _ _ ?_)
  refine .ret ?_
  obtain rfl := sj h
  exact hQ _ _ _ rp
 refine .r fun K24 k24 => (k24 _ _ ?_)
 refine .ak rfl h (fun hc11 h => ?_) (fun hc11 h => ?_)
 ·refine .r fun K25 k25 => (k25 _ _ ?_)
  refine .ret ?_
  obtain rfl := sj h
  exact hQ _ _ _ rp
 refine .skip (k2 _ _ ?_)
 refine .q fun K26 k26 => .q fun K27 k27 => ?_
 obtain ⟨s1, hj1, h⟩ := ob h
 have hR1 : ∀ t9 h9, Le 0 t9 h9 (.i p0 :: (u16 (u8 (u4 (u2 (.bool s1 :: (u16 []))))))) [] → K27 t9 h9 := by
  intro t9 h9 hw
  refine k27 _ _ (AW.le hw ?_)
  clear hw
  refine .ak rfl h (fun hc12 h => ?_) (fun hc12 h => ?_)
  ·refine .r1 fun K28 k28 => (⟨List.map encS ([([61] : Str), ([47, 61] : Str), ([60] : Str), ([60, 61] : Str), ([62] : Str), ([62, 61] : Str), ([105, 110] : Str), ([110, 111, 116, 105, 110] : Str), ([115, 117, 98] : Str)]), by kernel_rfl, ?_⟩)
   refine ⟨(IntKind.wrap .i64 (p0 - 10)), rfl, ?_⟩
   obtain ⟨x1, hx1, h⟩ := ob h
   refine aG (l := [([61] : Str), ([47, 61] : Str), ([60] : Str), ([60, 61] : Str), ([62] : Str), ([62, 61] : Str), ([105, 110] : Str), ([110, 111, 116, 105, 110] : Str), ([115, 117, 98] : Str)]) (f := encS) (cs := [.str (x1)]) hx1 (rfl) rfl (k28 _ _ ?_)
   refine .ret ?_
   obtain rfl := sj h
   exact hQ _ _ _ rp
  refine .skip (k26 _ _ ?_)
  refine .q fun K29 k29 => .q fun K30 k30 => ?_
  obtain ⟨s2, hj2, h⟩ := ob h
  have hR2 : ∀ t9 h9, Le 0 t9 h9 (.i p0 :: (u32 (u8 (.unk :: (.bool s2 :: (u4 (.unk :: []))))))) [] → K30 t9 h9 := by
   intro t9 h9 hw
   refine k30 _ _ (AW.le hw ?_)
   clear hw
   refine .ak rfl h (fun hc13 h => ?_) (fun hc13 h => ?_)
   ·refine .r1 fun K31 k31 => (⟨List.map encS ([([92, 47] : Str), ([47, 92] : Str), ([92] : Str), ([62, 60] : Str), ([60, 43] : Str), ([59] : Str), ([60, 124] : Str), ([60, 60, 124] : Str), ([124, 62] : Str), ([124, 62, 62] : Str), ([60, 45, 62] : Str), ([43, 45, 62] : Str), ([45, 45, 62] : Str), ([62, 45, 62] : Str), ([62, 45, 62, 62] : Str)]), by kernel_rfl, ?_⟩)
    refine ⟨(IntKind.wrap .i64 (p0 - 31)), rfl, ?_⟩
    obtain ⟨x2, hx2, h⟩ := ob h
    refine aG (l := [([92, 47] : Str), ([47, 92] : Str), ([92] : Str), ([62, 60] : Str), ([60, 43] : Str), ([59] : Str), ([60, 124] : Str), ([60, 60, 124] : Str), ([124, 62] : Str), ([124, 62, 62] : Str), ([60, 45, 62] : Str), ([43, 45, 62] : Str), ([45, 45, 62] : Str), ([62, 45, 62] : Str), ([62, 45, 62, 62] : Str)]) (f := encS) (cs := [.str (x2)]) hx2 (rfl) rfl (k31 _ _ ?_)
    refine .ret ?_
    obtain rfl := sj h
    exact hQ _ _ _ rp
   refine .skip (k29 _ _ ?_)
   refine .r fun K32 k32 => (k32 _ _ ?_)
   refine .ret ?_
   obtain rfl := sj h
   exact hQ _ _ _ rp
  refine rg 0 (aD hj2 (fun hc14 hj2 => ?_) (fun hc14 hj2 => ?_))
  ·cases hj2
   exact hR2 _ _ (li (.s (.u16 (.u16 (.u8 (.u (.s (.u4 (.u .n)))))))))
  cases hj2
  exact hR2 _ _ (li (.s (.u16 (.u16 (.u8 (.u (.s (.u4 (.u .n)))))))))
 refine rg 0 (aD hj1 (fun hc15 hj1 => ?_) (fun hc15 hj1 => ?_))
 ·cases hj1
  exact hR1 _ _ (li (.s (.u16 (.u8 (.u4 (.u2 (.s (.u16 .n))))))))
 cases hj1
 exact hR1 _ _ (li (.s (.u16 (.u8 (.u4 (.u2 (.s (.u16 .n))))))))
theorem adE (n : Nat) (p0 : Tm) (r : Bool) (h : Ef n p0 = some r) : aB Tryz.prog 242 [bD p0] [] (.bool r) [] := by
 unfold Ef at h
 refine ah true Tryz.func242 rfl (nt Tryz.ntmps242 rfl) fun Q hQ t ht => ?_
 conv at ht => whnf
 subst ht
 refine .r1 fun K1 k1 => (k1 _ _ ?_)
 refine .q fun K2 k2 => ?_
 obtain ⟨s1, hj1, h⟩ := ob h
 have hR1 : ∀ t9 h9, Le 0 t9 h9 (u2 (.bool s1 :: (u16 (u8 (u4 (.unk :: [])))))) [] → K2 t9 h9 := by
  intro t9 h9 hw
  refine k2 _ _ (AW.le hw ?_)
  clear hw
  refine .ret ?_
  obtain rfl := sj h
  exact hQ _ _ _ rp
 refine rg 0 (aD hj1 (fun hc1 hj1 => ?_) (fun hc1 hj1 => ?_))
 ·cases hj1
  exact hR1 _ _ (wk [] (.u2 (.c rfl (.u16 (.u8 (.u4 (.u .nil)))))) .nil rfl)
 refine aD hj1 (fun hc2 hj1 => ?_) (fun hc2 hj1 => ?_)
 ·cases hj1
  exact hR1 _ _ (wk [] (.u2 (.c rfl (.u16 (.u8 (.u4 (.u .nil)))))) .nil rfl)
 refine aD hj1 (fun hc3 hj1 => ?_) (fun hc3 hj1 => ?_)
 ·cases hj1
  exact hR1 _ _ (wk [] (.u2 (.c rfl (.u16 (.u8 (.u4 (.u .nil)))))) .nil rfl)
 refine aD hj1 (fun hc4 hj1 => ?_) (fun hc4 hj1 => ?_)
 ·cases hj1
  exact hR1 _ _ (wk [] (.u2 (.c rfl (.u16 (.u8 (.u4 (.u .nil)))))) .nil rfl)
 refine aD hj1 (fun hc5 hj1 => ?_) (fun hc5 hj1 => ?_)
 ·cases hj1
  exact hR1 _ _ (wk [] (.u2 (.c rfl (.u16 (.u8 (.u4 (.u .nil)))))) .nil rfl)
 obtain ⟨x1, hx1, hj1⟩ := ob hj1
 refine aj (TG _ _ _ hx1) aM (.cons (.same _) .nil) (fun g => rfl) (fun g => rfl) ?_
 cases hj1
 exact hR1 _ _ (wk [] (.u2 (.c rfl (.u16 (.u8 (.u4 (.u .nil)))))) .nil rfl)
end Abs
end Go.Proofs.YtiiaccpcoclklaaGreat
namespace Go.Proofs.YtiiaccpcoclklaaGreat
namespace Abs
open Go Go.Proofs
def aU (x : S_api_Binding) : List AV := [.str x.name, .int .i64 x.term.op, .str x.term.name, .int .i64 x.term.n, .int .i64 x.term.ty.kind, .str x.term.ty.name, .slice (List.map aI x.term.ty.kids) .shared, .slice (List.map aN x.term.kids) .shared]
theorem dG (g : Nat → Nat) (l : List S_api_Binding) : bK g (l.map aU) = l.map aU := Dp (fun g x => by simp only [aU, bS, ren, dM, aQ, aY, bQ, aA, aK, au, aF]) g l
theorem Uv (g : Nat → Nat) (x : S_api_Binding) : bS g (aU x) = aU x := by simp only [aU, bS, ren, dM, aQ, aY, bQ, aA, aK, au, aF]
attribute [simp] dG Uv
end Abs
end Go.Proofs.YtiiaccpcoclklaaGreat
namespace Go.Proofs.YtiiaccpcoclklaaGreat
namespace Abs
open Go Go.Proofs
set_option maxRecDepth 100000
set_option maxHeartbeats 40000000
theorem t1x0 {p q : Prop} (f : p → q) (h : p := by exact li (.u4 (.s (.u16 (.u4 (.u .n)))))) : q := f h
theorem jD (n : Nat) (p0 : Env) (r : Bool) (h : kQ n p0 = some r) : aB Tryz.prog 16 [dR p0] [] (.bool r) [] := by
 unfold kQ at h
 refine ah true Tryz.func16 rfl (nt Tryz.ntmps16 rfl) fun Q hQ t ht => ?_
 conv at ht => whnf
 subst ht
 refine .r1 fun K1 k1 => (k1 _ _ ?_)
 refine .q fun K2 k2 => .q fun K3 k3 => ?_
 obtain ⟨s1, hj1, h⟩ := ob h
 have hR1 : ∀ t9 h9, Le 0 t9 h9 (.unk :: (.ptr 0 0 :: (u8 (u2 (.unk :: (.bool s1 :: (u8 (u4 (u2 (.unk :: [])))))))))) [.box [bT p0.carriers, bW p0.names]] → K3 t9 h9 := by
  intro t9 h9 hw
  refine k3 _ _ (AW.le hw ?_)
  clear hw
  refine .ak rfl h (fun hc1 h => ?_) (fun hc1 h => ?_)
  ·refine .r fun K4 k4 => (k4 _ _ ?_)
   refine .ret ?_
   obtain rfl := sj h
   exact hQ _ _ _ rp
  refine .skip (k2 _ _ ?_)
  refine .q fun K5 k5 => .r fun K6 k6 => (k6 _ _ ?_)
  refine .block ?_
  obtain ⟨o1, ho1, h⟩ := ob h
  have hR2 : ∀ s3 : Unit, o1 = .nx s3 → ∀ t9 h9, Le 0 t9 h9 (u16 (u8 (u4 (.unk :: [])))) [] → K5 t9 h9 := by
   intro s3 ho
   subst ho
   dsimp only [LR.el] at h
   intro t9 h9 hw
   refine k5 _ _ (AW.le hw ?_)
   refine .r fun K7 k7 => (k7 _ _ ?_)
   refine .ret ?_
   obtain rfl := sj h
   exact hQ _ _ _ rp
  refine .loopS (Ew n p0) (fun (s2 : Int) => (.unk :: (.ptr 0 0 :: (.unk :: (.i s2 :: (u16 (u8 (.unk :: [])))))))) (fun (s2 : Int) => [.box [bT p0.carriers, bW p0.names]]) ho1 (fun _ => rfl) (li (.u (.s (.u (.s (.u16 (.u8 (.u .n)))))))) ?_
  intro n1 s2 hs1 KL1 hKL1
  unfold Ew at hs1
  refine .q fun K8 k8 => .r fun K9 k9 => (aV (l := p0.carriers) (f := aL) ?_)
  refine k9 _ _ (.ak rfl hs1 (fun hc2 hs1 => ?_) (fun hc2 hs1 => ?_))
  ·refine .skip (k8 _ _ ?_)
   refine .q fun K10 k10 => (.block ?_)
   refine .r fun K11 k11 => ?_
   obtain ⟨x1, hx1, hs1⟩ := ob hs1
   refine aG (l := p0.carriers) (f := aL) (cs := [.str ((x1).name), bX ((x1).elems)]) hx1 (rfl) rfl (aV (l := x1.elems) (f := encS) ?_)
   refine k11 _ _ (.ak rfl hs1 (fun hc3 hs1 => ?_) (fun hc3 hs1 => ?_))
   ·refine .r fun K12 k12 => (k12 _ _ ?_)
    refine .ret ?_
    obtain rfl := sj hs1
    dsimp only [LR.el] at h
    obtain rfl := sj h
    exact hQ _ _ _ rp
   refine .skip (k10 _ _ ?_)
   refine .know 3 0 fun hv1 => (.know 16 0 fun hv2 => ?_)
   refine rg 0 (⟨(s2 + 1), by have := dz hv1; have := fG hv2; have h8 := of_decide_eq_true hc2; exact bC (by omega) (by omega), ?_⟩)
   exact hKL1 _ _ _ hs1 (li (.u (.s (.u (.s (.u16 (.u8 (.u .n))))))))
  refine .exit ?_
  exact hR2 _ (sj hs1).symm _ _ (wk [] (.u16 (.u8 (.u4 (.u .nil)))) .nil rfl)
 refine rg 0 (aV (l := p0.carriers) (f := aL) ?_)
 refine aD hj1 (fun hc4 hj1 => ?_) (fun hc4 hj1 => ?_)
 ·cases hj1
  exact hR1 _ _ (li (.u (.s (.u8 (.u2 (.u (.s (.u8 (.u4 (.u2 (.u .n)))))))))))
 refine aV (l := p0.names) (f := aO) ?_
 cases hj1
 exact hR1 _ _ (li (.u (.s (.u8 (.u2 (.u (.s (.u8 (.u4 (.u2 (.u .n)))))))))))
theorem OA (n : Nat) (p0 : Int) (r : Bool) (h : BF n p0 = some r) : aB Tryz.prog 191 [.int .u8 p0] [] (.bool r) [] := by
 unfold BF at h
 refine ah true Tryz.func191 rfl (nt Tryz.ntmps191 rfl) fun Q hQ t ht => ?_
 conv at ht => whnf
 subst ht
 refine .r fun K1 k1 => (k1 _ _ ?_)
 refine .q fun K2 k2 => ?_
 obtain ⟨s1, hj1, h⟩ := ob h
 have hR1 : ∀ t9 h9, Le 0 t9 h9 (u2 (.bool s1 :: (u8 (u4 (u2 []))))) [] → K2 t9 h9 := by
  intro t9 h9 hw
  refine k2 _ _ (AW.le hw ?_)
  clear hw
  refine .ret ?_
  obtain rfl := sj h
  exact hQ _ _ _ rp
 refine rg 0 (aD hj1 (fun hc1 hj1 => ?_) (fun hc1 hj1 => ?_))
 ·refine aD hj1 (fun hc2 hj1 => ?_) (fun hc2 hj1 => ?_)
  ·cases hj1
   exact hR1 _ _ (li (.u2 (.s (.u8 (.u4 (.u2 .n))))))
  refine aD hj1 (fun hc3 hj1 => ?_) (fun hc3 hj1 => ?_)
  ·cases hj1
   exact hR1 _ _ (li (.u2 (.s (.u8 (.u4 (.u2 .n))))))
  cases hj1
  exact hR1 _ _ (li (.u2 (.s (.u8 (.u4 (.u2 .n))))))
 refine aD hj1 (fun hc4 hj1 => ?_) (fun hc4 hj1 => ?_)
 ·cases hj1
  exact hR1 _ _ (li (.u2 (.s (.u8 (.u4 (.u2 .n))))))
 cases hj1
 exact hR1 _ _ (li (.u2 (.s (.u8 (.u4 (.u2 .n))))))
theorem acC (n : Nat) (p0 : Str) (r : Bool) (h : CF n p0 = some r) : aB Tryz.prog 192 [.str p0] [] (.bool r) [] := by
 unfold CF at h
 refine ah true Tryz.func192 rfl (nt Tryz.ntmps192 rfl) fun Q hQ t ht => ?_
 conv at ht => whnf
 subst ht
 refine .r fun K1 k1 => (k1 _ _ ?_)
 refine .q fun K2 k2 => .r fun K3 k3 => (k3 _ _ ?_)
 refine .block (.q fun K4 k4 => ?_)
 obtain ⟨s1, hj1, h⟩ := ob h
 have hR1 : ∀ t9 h9, Le 0 t9 h9 (u4 (.bool s1 :: (u16 (u4 (.unk :: []))))) [] → K4 t9 h9 := by
  intro t9 h9 hw
  refine k4 _ _ (AW.le hw ?_)
  clear hw
  refine .ak rfl h (fun hc1 h => ?_) (fun hc1 h => ?_)
  ·refine .r fun K5 k5 => (k5 _ _ ?_)
   refine .ret ?_
   obtain rfl := sj h
   exact hQ _ _ _ rp
  refine .skip (k2 _ _ ?_)
  refine .r fun K6 k6 => (k6 _ _ ?_)
  refine .ret ?_
  obtain rfl := sj h
  exact hQ _ _ _ rp
 refine .r fun K7 k7 => (k7 _ _ ?_)
 refine .ak rfl hj1 (fun hc2 hj1 => ?_) (fun hc2 hj1 => ?_)
 ·refine .skip ?_
  cases hj1
  exact t1x0 (hR1 _ _)
 refine .r fun K8 k8 => (k8 _ _ ?_)
 refine .ak rfl hj1 (fun hc3 hj1 => ?_) (fun hc3 hj1 => ?_)
 ·refine .skip ?_
  cases hj1
  exact t1x0 (hR1 _ _)
 refine .r fun K9 k9 => (k9 _ _ ?_)
 refine .ak rfl hj1 (fun hc4 hj1 => ?_) (fun hc4 hj1 => ?_)
 ·refine .skip ?_
  cases hj1
  exact t1x0 (hR1 _ _)
 refine .r fun K10 k10 => (k10 _ _ ?_)
 refine .ak rfl hj1 (fun hc5 hj1 => ?_) (fun hc5 hj1 => ?_)
 ·refine .skip ?_
  cases hj1
  exact t1x0 (hR1 _ _)
 refine .r fun K11 k11 => (k11 _ _ ?_)
 refine .ak rfl hj1 (fun hc6 hj1 => ?_) (fun hc6 hj1 => ?_)
 ·refine .skip ?_
  cases hj1
  exact t1x0 (hR1 _ _)
 refine .r fun K12 k12 => (k12 _ _ ?_)
 refine .ak rfl hj1 (fun hc7 hj1 => ?_) (fun hc7 hj1 => ?_)
 ·refine .skip ?_
  cases hj1
  exact t1x0 (hR1 _ _)
 refine .r fun K13 k13 => (k13 _ _ ?_)
 refine .ak rfl hj1 (fun hc8 hj1 => ?_) (fun hc8 hj1 => ?_)
 ·refine .skip ?_
  cases hj1
  exact t1x0 (hR1 _ _)
 refine .r fun K14 k14 => (k14 _ _ ?_)
 refine .ak rfl hj1 (fun hc9 hj1 => ?_) (fun hc9 hj1 => ?_)
 ·refine .skip ?_
  cases hj1
  exact t1x0 (hR1 _ _)
 refine .r fun K15 k15 => (k15 _ _ ?_)
 refine .ak rfl hj1 (fun hc10 hj1 => ?_) (fun hc10 hj1 => ?_)
 ·refine .skip ?_
  cases hj1
  exact t1x0 (hR1 _ _)
 refine .r fun K16 k16 => (k16 _ _ ?_)
 refine .ak rfl hj1 (fun hc11 hj1 => ?_) (fun hc11 hj1 => ?_)
 ·refine .skip ?_
  cases hj1
  exact t1x0 (hR1 _ _)
 refine .r fun K17 k17 => (k17 _ _ ?_)
 refine .ak rfl hj1 (fun hc12 hj1 => ?_) (fun hc12 hj1 => ?_)
 ·refine .skip ?_
  cases hj1
  exact t1x0 (hR1 _ _)
 refine .r fun K18 k18 => (k18 _ _ ?_)
 refine .ak rfl hj1 (fun hc13 hj1 => ?_) (fun hc13 hj1 => ?_)
 ·refine .skip ?_
  cases hj1
  exact t1x0 (hR1 _ _)
 refine .r fun K19 k19 => (k19 _ _ ?_)
 refine .ak rfl hj1 (fun hc14 hj1 => ?_) (fun hc14 hj1 => ?_)
 ·refine .skip ?_
  cases hj1
  exact t1x0 (hR1 _ _)
 refine .r fun K20 k20 => (k20 _ _ ?_)
 refine .ak rfl hj1 (fun hc15 hj1 => ?_) (fun hc15 hj1 => ?_)
 ·refine .skip ?_
  cases hj1
  exact t1x0 (hR1 _ _)
 refine .r fun K21 k21 => (k21 _ _ ?_)
 refine .ak rfl hj1 (fun hc16 hj1 => ?_) (fun hc16 hj1 => ?_)
 ·refine .skip ?_
  cases hj1
  exact t1x0 (hR1 _ _)
 refine .r fun K22 k22 => (k22 _ _ ?_)
 refine .ak rfl hj1 (fun hc17 hj1 => ?_) (fun hc17 hj1 => ?_)
 ·refine .skip ?_
  cases hj1
  exact t1x0 (hR1 _ _)
 refine .r fun K23 k23 => (k23 _ _ ?_)
 refine .ak rfl hj1 (fun hc18 hj1 => ?_) (fun hc18 hj1 => ?_)
 ·refine .skip ?_
  cases hj1
  exact t1x0 (hR1 _ _)
 refine .r fun K24 k24 => (k24 _ _ ?_)
 refine .ak rfl hj1 (fun hc19 hj1 => ?_) (fun hc19 hj1 => ?_)
 ·refine .skip ?_
  cases hj1
  exact t1x0 (hR1 _ _)
 refine .r fun K25 k25 => (k25 _ _ ?_)
 refine .ak rfl hj1 (fun hc20 hj1 => ?_) (fun hc20 hj1 => ?_)
 ·refine .skip ?_
  cases hj1
  exact t1x0 (hR1 _ _)
 refine .r fun K26 k26 => (k26 _ _ ?_)
 refine .ak rfl hj1 (fun hc21 hj1 => ?_) (fun hc21 hj1 => ?_)
 ·refine .skip ?_
  cases hj1
  exact t1x0 (hR1 _ _)
 refine rg 0 ?_
 cases hj1
 exact t1x0 (hR1 _ _)
theorem ag4 (n : Nat) (p0 : Int) (r : Bool) (h : GA n p0 = some r) : aB Tryz.prog 253 [.int .u8 p0] [] (.bool r) [] := by
 unfold GA at h
 refine ah true Tryz.func253 rfl (nt Tryz.ntmps253 rfl) fun Q hQ t ht => ?_
 conv at ht => whnf
 subst ht
 refine .r fun K1 k1 => (k1 _ _ ?_)
 refine .q fun K2 k2 => ?_
 obtain ⟨s1, hj1, h⟩ := ob h
 have hR1 : ∀ t9 h9, Le 0 t9 h9 (u2 (.bool s1 :: (u4 (u2 [])))) [] → K2 t9 h9 := by
  intro t9 h9 hw
  refine k2 _ _ (AW.le hw ?_)
  clear hw
  refine .ret ?_
  obtain rfl := sj h
  exact hQ _ _ _ rp
 refine rg 0 (aD hj1 (fun hc1 hj1 => ?_) (fun hc1 hj1 => ?_))
 ·cases hj1
  exact hR1 _ _ (li (.u2 (.s (.u4 (.u2 .n)))))
 cases hj1
 exact hR1 _ _ (li (.u2 (.s (.u4 (.u2 .n)))))
theorem aeE (n : Nat) (p0 : Int) (r : Bool) (h : Et n p0 = some r) : aB Tryz.prog 193 [.int .u8 p0] [] (.bool r) [] := by
 unfold Et at h
 refine ah true Tryz.func193 rfl (nt Tryz.ntmps193 rfl) fun Q hQ t ht => ?_
 conv at ht => whnf
 subst ht
 refine .r fun K1 k1 => (k1 _ _ ?_)
 refine .q fun K2 k2 => ?_
 obtain ⟨s1, hj1, h⟩ := ob h
 have hR1 : ∀ t9 h9, Le 0 t9 h9 (u2 (.bool s1 :: (u8 (u2 [])))) [] → K2 t9 h9 := by
  intro t9 h9 hw
  refine k2 _ _ (AW.le hw ?_)
  clear hw
  refine .ret ?_
  obtain rfl := sj h
  exact hQ _ _ _ rp
 refine rg 0 ?_
 obtain ⟨x1, hx1, hj1⟩ := ob hj1
 refine aj (OA _ _ _ hx1) aM (.cons (.same _) .nil) (fun g => rfl) (fun g => rfl) (aD hj1 (fun hc1 hj1 => ?_) (fun hc1 hj1 => ?_))
 ·cases hj1
  exact hR1 _ _ (li (.u2 (.s (.u8 (.u2 .n)))))
 obtain ⟨x2, hx2, hj1⟩ := ob hj1
 refine aj (ag4 _ _ _ hx2) aM (.cons (.same _) .nil) (fun g => rfl) (fun g => rfl) (aD hj1 (fun hc2 hj1 => ?_) (fun hc2 hj1 => ?_))
 ·cases hj1
  exact hR1 _ _ (li (.u2 (.s (.u8 (.u2 .n)))))
 cases hj1
 exact hR1 _ _ (li (.u2 (.s (.u8 (.u2 .n)))))
theorem qw (n : Nat) (p0 : Str) (r : Bool) (h : gY n p0 = some r) : aB Tryz.prog 117 [.str p0] [] (.bool r) [] := by
 unfold gY at h
 refine ah true Tryz.func117 rfl (nt Tryz.ntmps117 rfl) fun Q hQ t ht => ?_
 conv at ht => whnf
 subst ht
 refine .r fun K1 k1 => (k1 _ _ ?_)
 refine .q fun K2 k2 => .q fun K3 k3 => ?_
 obtain ⟨s1, hj1, h⟩ := ob h
 have hR1 : ∀ t9 h9, Le 0 t9 h9 (.str p0 :: (u16 (u2 (.unk :: (.bool s1 :: (u8 (u2 (.unk :: [])))))))) [] → K3 t9 h9 := by
  intro t9 h9 hw
  refine k3 _ _ (AW.le hw ?_)
  clear hw
  refine .ak rfl h (fun hc1 h => ?_) (fun hc1 h => ?_)
  ·refine .r fun K4 k4 => (k4 _ _ ?_)
   refine .ret ?_
   obtain rfl := sj h
   exact hQ _ _ _ rp
  refine .skip (k2 _ _ ?_)
  refine .q fun K5 k5 => .r fun K6 k6 => (k6 _ _ ?_)
  refine .block ?_
  obtain ⟨o1, ho1, h⟩ := ob h
  have hR2 : ∀ s3 : Unit, o1 = .nx s3 → ∀ t9 h9, Le 0 t9 h9 (u32 []) [] → K5 t9 h9 := by
   intro s3 ho
   subst ho
   dsimp only [LR.el] at h
   intro t9 h9 hw
   refine k5 _ _ (AW.le hw ?_)
   refine .r fun K7 k7 => (k7 _ _ ?_)
   refine .ret ?_
   obtain rfl := sj h
   exact hQ _ _ _ rp
  refine .loopS (qE n p0) (fun (s2 : Int) => (.str p0 :: (u16 (u4 (.unk :: (.i (p0.length : Int) :: (.i s2 :: (u8 [])))))))) (fun (s2 : Int) => []) ho1 (fun _ => rfl) (li (.s (.u16 (.u4 (.u (.s (.s (.u8 .n)))))))) ?_
  intro n1 s2 hs1 KL1 hKL1
  unfold qE at hs1
  refine .r fun K8 k8 => (k8 _ _ ?_)
  refine .q fun K9 k9 => (.ak rfl hs1 (fun hc2 hs1 => ?_) (fun hc2 hs1 => ?_))
  ·refine .skip (k9 _ _ ?_)
   refine .q fun K10 k10 => (.block ?_)
   refine .r fun K11 k11 => (k11 _ _ ?_)
   refine .r fun K12 k12 => ?_
   obtain ⟨x1, hx1, hs1⟩ := ob hs1
   refine je hx1 ?_
   obtain ⟨x2, hx2, hs1⟩ := ob hs1
   refine aj (aeE _ _ _ hx2) aM (.cons (.same _) .nil) (fun g => rfl) (fun g => rfl) (k12 _ _ ?_)
   refine .ak rfl hs1 (fun hc3 hs1 => ?_) (fun hc3 hs1 => ?_)
   ·refine .r fun K13 k13 => (k13 _ _ ?_)
    refine .ret ?_
    obtain rfl := sj hs1
    dsimp only [LR.el] at h
    obtain rfl := sj h
    exact hQ _ _ _ rp
   refine .skip (k10 _ _ ?_)
   refine .know 3 0 fun hv1 => (.know 0 0 fun hv2 => ?_)
   refine rg 0 (⟨(s2 + 1), by have := dz hv1; have := vfs hv2; have h8 := of_decide_eq_true hc2; exact bC (by omega) (by omega), ?_⟩)
   exact hKL1 _ _ _ hs1 (li (.s (.u16 (.u4 (.u (.s (.s (.u8 .n))))))))
  refine .exit ?_
  exact hR2 _ (sj hs1).symm _ _ (li (.u16 (.u16 .n)))
 refine rg 0 (aD hj1 (fun hc4 hj1 => ?_) (fun hc4 hj1 => ?_))
 ·cases hj1
  exact hR1 _ _ (li (.s (.u16 (.u2 (.u (.s (.u8 (.u2 (.u .n)))))))))
 refine aD hj1 (fun hc5 hj1 => ?_) (fun hc5 hj1 => ?_)
 ·cases hj1
  exact hR1 _ _ (li (.s (.u16 (.u2 (.u (.s (.u8 (.u2 (.u .n)))))))))
 obtain ⟨x3, hx3, hj1⟩ := ob hj1
 refine je hx3 ?_
 obtain ⟨x4, hx4, hj1⟩ := ob hj1
 refine aj (OA _ _ _ hx4) aM (.cons (.same _) .nil) (fun g => rfl) (fun g => rfl) (aD hj1 (fun hc6 hj1 => ?_) (fun hc6 hj1 => ?_))
 ·cases hj1
  exact hR1 _ _ (li (.s (.u16 (.u2 (.u (.s (.u8 (.u2 (.u .n)))))))))
 obtain ⟨x5, hx5, hj1⟩ := ob hj1
 refine aj (acC _ _ _ hx5) aM (.cons (.same _) .nil) (fun g => rfl) (fun g => rfl) ?_
 cases hj1
 exact hR1 _ _ (li (.s (.u16 (.u2 (.u (.s (.u8 (.u2 (.u .n)))))))))
theorem EA (n : Nat) (p0 p1 : Str) (r : Bool) (h : mX n p0 p1 = some r) : aB Tryz.prog 288 [.str p0, .str p1] [] (.bool r) [] := by
 unfold mX at h
 refine ah true Tryz.func288 rfl (nt Tryz.ntmps288 rfl) fun Q hQ t ht => ?_
 conv at ht => whnf
 subst ht
 refine .r fun K1 k1 => (k1 _ _ ?_)
 refine .q fun K2 k2 => ?_
 obtain ⟨s1, hj1, h⟩ := ob h
 have hR1 : ∀ t9 h9, Le 0 t9 h9 (u4 (.bool s1 :: (u16 []))) [] → K2 t9 h9 := by
  intro t9 h9 hw
  refine k2 _ _ (AW.le hw ?_)
  clear hw
  refine .ret ?_
  obtain rfl := sj h
  exact hQ _ _ _ rp
 refine rg 0 (aD hj1 (fun hc1 hj1 => ?_) (fun hc1 hj1 => ?_))
 ·refine ⟨(IntKind.wrap .i64 ((p0.length : Int) - (p1.length : Int))), rfl, ?_⟩
  obtain ⟨x1, hx1, hj1⟩ := ob hj1
  refine Gm hx1 (.int _ _ _) (.none _) ?_
  cases hj1
  exact hR1 _ _ (li (.u4 (.s (.u16 .n))))
 cases hj1
 exact hR1 _ _ (li (.u4 (.s (.u16 .n))))
theorem D9 (n : Nat) (p0 p1 r : Str) (h : mF n p0 p1 = some r) : aB Tryz.prog 252 [.str p0, .str p1] [] (.str r) [] := by
 unfold mF at h
 refine ah true Tryz.func252 rfl (nt Tryz.ntmps252 rfl) fun Q hQ t ht => ?_
 conv at ht => whnf
 subst ht
 refine .r fun K1 k1 => (k1 _ _ ?_)
 refine .q fun K2 k2 => .r fun K3 k3 => ?_
 obtain ⟨x1, hx1, h⟩ := ob h
 refine aj (EA _ _ _ _ hx1) aM (.cons (.same _) (.cons (.same _) .nil)) (fun g => rfl) (fun g => rfl) (k3 _ _ ?_)
 refine .ak rfl h (fun hc1 h => ?_) (fun hc1 h => ?_)
 ·refine .r fun K4 k4 => (⟨(IntKind.wrap .i64 ((p0.length : Int) - (p1.length : Int))), rfl, ?_⟩)
  obtain ⟨x2, hx2, h⟩ := ob h
  refine Gm hx2 (.none _) (.int _ _ _) (k4 _ _ ?_)
  refine .ret ?_
  obtain rfl := sj h
  exact hQ _ _ _ rp
 refine .skip (k2 _ _ ?_)
 refine .r fun K5 k5 => (k5 _ _ ?_)
 refine .ret ?_
 obtain rfl := sj h
 exact hQ _ _ _ rp
theorem FL (n : Nat) (p0 p1 r : Str) (h : strings_TrimSuffix n p0 p1 = some r) : aB Tryz.prog 187 [.str p0, .str p1] [] (.str r) [] := by
 unfold strings_TrimSuffix at h
 refine ah true Tryz.func187 rfl (nt Tryz.ntmps187 rfl) fun Q hQ t ht => ?_
 conv at ht => whnf
 subst ht
 refine .r fun K1 k1 => (k1 _ _ ?_)
 refine .r fun K2 k2 => ?_
 obtain ⟨x1, hx1, h⟩ := ob h
 refine aj (D9 _ _ _ _ hx1) aM (.cons (.same _) (.cons (.same _) .nil)) (fun g => rfl) (fun g => rfl) (k2 _ _ ?_)
 refine .ret ?_
 obtain rfl := sj h
 exact hQ _ _ _ rp
theorem IY (n : Nat) (p0 : Str) (r : Bool) (h : rG n p0 = some r) : aB Tryz.prog 112 [.str p0] [] (.bool r) [] := by
 unfold rG at h
 refine ah true Tryz.func112 rfl (nt Tryz.ntmps112 rfl) fun Q hQ t ht => ?_
 conv at ht => whnf
 subst ht
 refine .r fun K1 k1 => (k1 _ _ ?_)
 refine .r fun K2 k2 => ?_
 obtain ⟨x1, hx1, h⟩ := ob h
 refine aj (FL _ _ _ _ hx1) aM (.cons (.same _) (.cons (.same _) .nil)) (fun g => rfl) (fun g => rfl) ?_
 obtain ⟨x2, hx2, h⟩ := ob h
 refine aj (qw _ _ _ hx2) aM (.cons (.same _) .nil) (fun g => rfl) (fun g => rfl) (k2 _ _ ?_)
 refine .ret ?_
 obtain rfl := sj h
 exact hQ _ _ _ rp
theorem FZ (n : Nat) (p0 p1 : Int) (p2 p3 : Int) (r : Bool × Int) (h : lG n p0 p1 p2 p3 = some r) : aB Tryz.prog 194 [.ptr 0 0, .i p3] [.box [.i p0, .i p1, .i p2]] (.bool r.1) [.box [.i r.2, .i p1, .i p2]] := by
 unfold lG at h
 refine ah true Tryz.func194 rfl (nt Tryz.ntmps194 rfl) fun Q hQ t ht => ?_
 conv at ht => whnf
 subst ht
 refine .r fun K1 k1 => (k1 _ _ ?_)
 refine .r fun K2 k2 => (⟨(IntKind.wrap .i64 (p0 + 1)), rfl, ?_⟩)
 refine k2 _ _ (.q fun K3 k3 => ?_)
 obtain ⟨s1, hj1, h⟩ := ob h
 have hR1 : ∀ t9 h9, Le 1 t9 h9 (u4 (.bool s1 :: (u16 (u8 [])))) [.box [.i (IntKind.wrap .i64 (p0 + 1)), .i p1, .i p2]] → K3 t9 h9 := by
  intro t9 h9 hw
  refine k3 _ _ (AW.le hw ?_)
  clear hw
  refine .ret ?_
  obtain rfl := sj h
  exact hQ _ _ _ (rI [0])
 refine rg 0 (aD hj1 (fun hc1 hj1 => ?_) (fun hc1 hj1 => ?_))
 ·refine ⟨rfl, ?_⟩
  cases hj1
  exact hR1 _ _ (li (.u4 (.s (.u16 (.u8 .n)))))
 refine ⟨rfl, ?_⟩
 cases hj1
 exact hR1 _ _ (li (.u4 (.s (.u16 (.u8 .n)))))
abbrev qeq (qd2 : (List Ty) → Int → Int → Int → Int → Option (Int × Int)) : Prop := ∀ (p0 : List Ty) (p1 p2 : Int) (p3 p4 : Int) (r : Int × Int), qd2 p0 p1 p2 p3 p4 = some r → aB Tryz.prog 245 [aH p0, .func 244 [.ptr 0 0, .ptr 2 0]] [.box [.ptr 1 0], .box [.i p1, .i p2, .i p3], .box [.i p4]] (.i r.1) [.box [.ptr 1 0], .box [.i r.2, .i p2, .i p3], .box [.i p4]]
abbrev qem (qdy : (List Ty) → Int → Int → Int → Int → Option (Bool × Int)) : Prop := ∀ (p0 : List Ty) (p1 p2 : Int) (p3 p4 : Int) (r : Bool × Int), qdy p0 p1 p2 p3 p4 = some r → aB Tryz.prog 178 [aH p0, .func 244 [.ptr 0 0, .ptr 2 0]] [.box [.ptr 1 0], .box [.i p1, .i p2, .i p3], .box [.i p4]] (.bool r.1) [.box [.ptr 1 0], .box [.i r.2, .i p2, .i p3], .box [.i p4]]
abbrev qeu (qd6 : Int → Int → Int → Ty → Int → Bool → Option (Bool × Int)) : Prop := ∀ (p0 p1 p2 : Int) (p3 : Ty) (p4 : Int) (p5 : Bool) (r : Bool × Int), qd6 p0 p1 p2 p3 p4 p5 = some r → aB Tryz.prog 176 [.ptr 0 0, bn p3, .i p4, .bool p5] [.box [.i p0, .i p1, .i p2]] (.bool r.1) [.box [.i r.2, .i p1, .i p2]]
abbrev qet (qd7 : Ty → Int → Int → Int → Int → Option (Bool × Int)) : Prop := ∀ (p0 : Ty) (p1 p2 : Int) (p3 p4 : Int) (r : Bool × Int), qd7 p0 p1 p2 p3 p4 = some r → aB Tryz.prog 244 [bn p0, .ptr 0 0, .ptr 2 0] [.box [.ptr 1 0], .box [.i p1, .i p2, .i p3], .box [.i p4]] (.bool r.1) [.box [.ptr 1 0], .box [.i r.2, .i p2, .i p3], .box [.i p4]]
theorem G8 (n : Nat) (qd2 : (List Ty) → Int → Int → Int → Int → Option (Int × Int)) (qdy : (List Ty) → Int → Int → Int → Int → Option (Bool × Int)) (qd6 : Int → Int → Int → Ty → Int → Bool → Option (Bool × Int)) (qd7 : Ty → Int → Int → Int → Int → Option (Bool × Int)) (qcc : qeq qd2) (qb8 : qem qdy) (qcg : qeu qd6) (qch : qet qd7) (p0 : List Ty) (p1 p2 : Int) (p3 p4 : Int) (r : Int × Int) (h : iO n qd2 qdy qd6 qd7 p0 p1 p2 p3 p4 = some r) : aB Tryz.prog 245 [aH p0, .func 244 [.ptr 0 0, .ptr 2 0]] [.box [.ptr 1 0], .box [.i p1, .i p2, .i p3], .box [.i p4]] (.i r.1) [.box [.ptr 1 0], .box [.i r.2, .i p2, .i p3], .box [.i p4]] := by
 unfold iO at h
 refine ah true Tryz.func245 rfl (nt Tryz.ntmps245 rfl) fun Q hQ t ht => ?_
 conv at ht => whnf
 subst ht
 refine .r fun K1 k1 => (k1 _ _ ?_)
 refine .q fun K2 k2 => .r fun K3 k3 => (aV (l := p0) (f := aI) ?_)
 refine k3 _ _ (.block ?_)
 obtain ⟨o1, ho1, h⟩ := ob h
 have hR1 : ∀ s2 : Int, o1 = .nx s2 → ∀ t9 h9, Le 3 t9 h9 (u16 (u2 (.unk :: []))) [.box [.ptr 1 0], .box [.i s2, .i p2, .i p3], .box [.i p4]] → K2 t9 h9 := by
  intro s2 ho
  subst ho
  dsimp only [LR.el] at h
  intro t9 h9 hw
  refine k2 _ _ (AW.le hw ?_)
  refine .r fun K4 k4 => (k4 _ _ ?_)
  refine .ret ?_
  obtain rfl := sj h
  refine hQ _ _ _ (rI [0, 1, 2] rfl (.cons (rfl) (.cons (rfl) (.cons (rfl) .nil))) ?_)
  exact fin
 refine .loopS (nM n qd2 qdy qd6 qd7 p0 p2 p3 p4) (fun (s1 : Int × Int) => (aH p0 :: (.func 244 [.ptr 0 0, .ptr 2 0] :: (u4 (.unk :: (.i (p0.length : Int) :: (.i s1.1 :: (u8 (u2 []))))))))) (fun (s1 : Int × Int) => [.box [.ptr 1 0], .box [.i s1.2, .i p2, .i p3], .box [.i p4]]) ho1 (fun _ => rfl) (li (.s (.s (.u4 (.u (.s (.s (.u8 (.u2 .n))))))))) ?_
 intro n1 s1 hs1 KL1 hKL1
 unfold nM at hs1
 refine .r fun K5 k5 => (k5 _ _ ?_)
 refine .q fun K6 k6 => (.ak rfl hs1 (fun hc1 hs1 => ?_) (fun hc1 hs1 => ?_))
 ·refine .skip (k6 _ _ ?_)
  refine .q fun K7 k7 => (.block ?_)
  refine .r fun K8 k8 => (k8 _ _ ?_)
  refine .r fun K9 k9 => ?_
  obtain ⟨x1, hx1, hs1⟩ := ob hs1
  refine aG (l := p0) (f := aI) (cs := [.i ((x1).kind), .str ((x1).name), aH ((x1).kids)]) hx1 (aR x1) rfl ?_
  obtain ⟨x2, hx2, hs1⟩ := ob hs1
  refine bZ [0, 1, 2] [] [bn x1, .ptr 0 0, .ptr 2 0] [bn x1, .ptr 0 0, .ptr 2 0] (qch _ _ _ _ _ _ hx2) aM rfl (.cons (rfl) (.cons (rfl) (.cons (rfl) .nil))) (by simp; try decide) (.cons (.same _) (.cons (.same _) (.cons (.same _) .nil))) (rn := .bool x2.1) (rfl) (Hn := [.box [.ptr 1 0], .box [.i x2.2, .i p2, .i p3], .box [.i p4]]) ((bN (rfl) (bN (rfl) (bN (rfl) rfl)))) (k9 _ _ ?_)
  refine .ak rfl hs1 (fun hc2 hs1 => ?_) (fun hc2 hs1 => ?_)
  ·refine .r fun K10 k10 => (k10 _ _ ?_)
   refine .ret ?_
   obtain rfl := sj hs1
   dsimp only [LR.el] at h
   obtain rfl := sj h
   refine hQ _ _ _ (rI [0, 1, 2] rfl (.cons (rfl) (.cons (rfl) (.cons (rfl) .nil))) ?_)
   exact fin
  refine .skip (k7 _ _ ?_)
  refine .know 5 0 fun hv1 => (.know 0 0 fun hv2 => ?_)
  refine rg 0 (⟨(s1.1 + 1), by have := dz hv1; have := fG hv2; have h8 := of_decide_eq_true hc1; exact bC (by omega) (by omega), ?_⟩)
  exact hKL1 _ _ _ hs1 (li (.s (.s (.u4 (.u (.s (.s (.u8 (.u2 .n)))))))))
 refine .exit ?_
 exact hR1 _ (sj hs1).symm _ _ (li (.u16 (.u2 (.u .n))))
theorem Fg (n : Nat) (qd2 : (List Ty) → Int → Int → Int → Int → Option (Int × Int)) (qdy : (List Ty) → Int → Int → Int → Int → Option (Bool × Int)) (qd6 : Int → Int → Int → Ty → Int → Bool → Option (Bool × Int)) (qd7 : Ty → Int → Int → Int → Int → Option (Bool × Int)) (qcc : qeq qd2) (qb8 : qem qdy) (qcg : qeu qd6) (qch : qet qd7) (p0 : List Ty) (p1 p2 : Int) (p3 p4 : Int) (r : Bool × Int) (h : kr n qd2 qdy qd6 qd7 p0 p1 p2 p3 p4 = some r) : aB Tryz.prog 178 [aH p0, .func 244 [.ptr 0 0, .ptr 2 0]] [.box [.ptr 1 0], .box [.i p1, .i p2, .i p3], .box [.i p4]] (.bool r.1) [.box [.ptr 1 0], .box [.i r.2, .i p2, .i p3], .box [.i p4]] := by
 unfold kr at h
 refine ah true Tryz.func178 rfl (nt Tryz.ntmps178 rfl) fun Q hQ t ht => ?_
 conv at ht => whnf
 subst ht
 refine .r fun K1 k1 => (k1 _ _ ?_)
 refine .r fun K2 k2 => ?_
 obtain ⟨x1, hx1, h⟩ := ob h
 refine bZ [0, 1, 2] [] [aH p0, .func 244 [.ptr 0 0, .ptr 2 0]] [aH p0, .func 244 [.ptr 0 0, .ptr 2 0]] (qcc _ _ _ _ _ _ hx1) aM rfl (.cons (rfl) (.cons (rfl) (.cons (rfl) .nil))) (by simp; try decide) (.cons (.same _) (.cons (.same _) .nil)) (rn := .i x1.1) (rfl) (Hn := [.box [.ptr 1 0], .box [.i x1.2, .i p2, .i p3], .box [.i p4]]) ((bN (rfl) (bN (rfl) (bN (rfl) rfl)))) (k2 _ _ ?_)
 refine .ret ?_
 obtain rfl := sj h
 refine hQ _ _ _ (rI [0, 1, 2] rfl (.cons (rfl) (.cons (rfl) (.cons (rfl) .nil))) ?_)
 exact fin
theorem GY (n : Nat) (qd2 : (List Ty) → Int → Int → Int → Int → Option (Int × Int)) (qdy : (List Ty) → Int → Int → Int → Int → Option (Bool × Int)) (qd6 : Int → Int → Int → Ty → Int → Bool → Option (Bool × Int)) (qd7 : Ty → Int → Int → Int → Int → Option (Bool × Int)) (qcc : qeq qd2) (qb8 : qem qdy) (qcg : qeu qd6) (qch : qet qd7) (p0 p1 p2 : Int) (p3 : Ty) (p4 : Int) (p5 : Bool) (r : Bool × Int) (h : l8 n qd2 qdy qd6 qd7 p0 p1 p2 p3 p4 p5 = some r) : aB Tryz.prog 176 [.ptr 0 0, bn p3, .i p4, .bool p5] [.box [.i p0, .i p1, .i p2]] (.bool r.1) [.box [.i r.2, .i p1, .i p2]] := by
 unfold l8 at h
 refine ah true Tryz.func176 rfl (nt Tryz.ntmps176 rfl) fun Q hQ t ht => ?_
 conv at ht => whnf
 subst ht
 refine .q fun K1 k1 => rg 3 (k1 _ _ ?_)
 refine .q fun K2 k2 => .r fun K3 k3 => ?_
 obtain ⟨x1, hx1, h⟩ := ob h
 refine cg [0] [] [.ptr 0 0, .i p4] (FZ _ _ _ _ _ _ hx1) (.bool x1.1) [.box [.i x1.2, .i p1, .i p2]] (k3 _ _ ?_)
 refine .ak rfl h (fun hc1 h => ?_) (fun hc1 h => ?_)
 ·refine .r fun K4 k4 => (k4 _ _ ?_)
  refine .ret ?_
  obtain rfl := sj h
  exact hQ _ _ _ (rI [0])
 refine .skip (k2 _ _ ?_)
 refine .r fun K5 k5 => (k5 _ _ ?_)
 refine .q fun K6 k6 => ?_
 obtain ⟨o1, hj1, h⟩ := ob h
 have hR1 : ∀ s1 : Int, o1 = .nx s1 → ∀ t9 h9, Le 1 t9 h9 (u4 (.ptr 1 0 :: (.ptr 2 0 :: (.ptr 3 0 :: (u2 (.i s1 :: (u32 (u8 (.unk :: []))))))))) [.box [.i x1.2, .i p1, .i p2], .box [.ptr 0 0], .box [.i p3.kind, .str p3.name, aH p3.kids], .box [.i p4]] → K6 t9 h9 := by
  intro s1 ho
  subst ho
  dsimp only [LR.el] at h
  intro t9 h9 hw
  refine k6 _ _ (AW.le hw ?_)
  clear hw
  refine .q fun K7 k7 => .q fun K8 k8 => ?_
  obtain ⟨s2, hj2, h⟩ := ob h
  have hR2 : ∀ t9 h9, Le 1 t9 h9 (u4 (.ptr 1 0 :: (.ptr 2 0 :: (.ptr 3 0 :: (u32 (u4 (u2 (.bool s2 :: (u4 (.unk :: [])))))))))) [.box [.i x1.2, .i p1, .i p2], .box [.ptr 0 0], .box [.i p3.kind, .str p3.name, aH p3.kids], .box [.i p4]] → K8 t9 h9 := by
   intro t9 h9 hw
   refine k8 _ _ (AW.le hw ?_)
   clear hw
   refine .ak rfl h (fun hc2 h => ?_) (fun hc2 h => ?_)
   ·refine .r fun K9 k9 => (k9 _ _ ?_)
    refine .ret ?_
    obtain rfl := sj h
    exact hQ _ _ _ (rI [0])
   refine .skip (k7 _ _ ?_)
   refine .r fun K10 k10 => ?_
   obtain ⟨x2, hx2, h⟩ := ob h
   refine bZ [1, 0, 3] [] [aH p3.kids, .func 244 [.ptr 0 0, .ptr 2 0]] [aH p3.kids, .func 244 [.ptr 1 0, .ptr 3 0]] (qb8 _ _ _ _ _ _ hx2) aM rfl (.cons (rfl) (.cons (rfl) (.cons (rfl) .nil))) (by simp; try decide) (.cons (.same _) (.cons (.same _) .nil)) (rn := .bool x2.1) (rfl) (Hn := [.box [.ptr 0 0], .box [.i x2.2, .i p1, .i p2], .box [.i p4]]) ((bN (rfl) (bN (rfl) (bN (rfl) rfl)))) (k10 _ _ ?_)
   refine .ret ?_
   obtain rfl := sj h
   exact hQ _ _ _ (rI [0])
  refine rg 0 (aV (l := p3.kids) (f := aI) ?_)
  refine aD hj2 (fun hc3 hj2 => ?_) (fun hc3 hj2 => ?_)
  ·cases hj2
   exact hR2 _ _ (li (.u4 (.s (.s (.s (.u16 (.u16 (.u4 (.u2 (.s (.u4 (.u .n))))))))))))
  refine aD hj2 (fun hc4 hj2 => ?_) (fun hc4 hj2 => ?_)
  ·cases hj2
   exact hR2 _ _ (li (.u4 (.s (.s (.s (.u16 (.u16 (.u4 (.u2 (.s (.u4 (.u .n))))))))))))
  cases hj2
  exact hR2 _ _ (li (.u4 (.s (.s (.s (.u16 (.u16 (.u4 (.u2 (.s (.u4 (.u .n))))))))))))
 refine .r fun K11 k11 => (k11 _ _ ?_)
 refine .block (.r fun K12 k12 => ?_)
 refine k12 _ _ (.ak rfl hj1 (fun hc5 hj1 => ?_) (fun hc5 hj1 => ?_))
 ·refine .skip ?_
  exact hR1 _ (sj hj1).symm _ _ (li (.u4 (.s (.s (.s (.u2 (.s (.u16 (.u16 (.u8 (.u .n)))))))))))
 refine .r fun K13 k13 => (k13 _ _ ?_)
 refine .ak rfl hj1 (fun hc6 hj1 => ?_) (fun hc6 hj1 => ?_)
 ·refine .r fun K14 k14 => (k14 _ _ ?_)
  refine .ak rfl hj1 (fun hc7 hj1 => ?_) (fun hc7 hj1 => ?_)
  ·refine .r fun K15 k15 => (k15 _ _ ?_)
   refine .ret ?_
   obtain rfl := sj hj1
   dsimp only [LR.el] at h
   obtain rfl := sj h
   exact hQ _ _ _ (rI [0])
  refine .skip ?_
  exact hR1 _ (sj hj1).symm _ _ (li (.u4 (.s (.s (.s (.u2 (.s (.u16 (.u16 (.u8 (.u .n)))))))))))
 refine .r fun K16 k16 => (k16 _ _ ?_)
 refine .ak rfl hj1 (fun hc8 hj1 => ?_) (fun hc8 hj1 => ?_)
 ·refine .r fun K17 k17 => ?_
  obtain ⟨x3, hx3, hj1⟩ := ob hj1
  refine aj (qw _ _ _ hx3) aM (.cons (.same _) .nil) (fun g => rfl) (fun g => rfl) (k17 _ _ ?_)
  refine .ak rfl hj1 (fun hc9 hj1 => ?_) (fun hc9 hj1 => ?_)
  ·refine .r fun K18 k18 => (k18 _ _ ?_)
   refine .ret ?_
   obtain rfl := sj hj1
   dsimp only [LR.el] at h
   obtain rfl := sj h
   exact hQ _ _ _ (rI [0])
  refine .skip ?_
  exact hR1 _ (sj hj1).symm _ _ (li (.u4 (.s (.s (.s (.u2 (.s (.u16 (.u16 (.u8 (.u .n)))))))))))
 refine .r fun K19 k19 => (k19 _ _ ?_)
 refine .ak rfl hj1 (fun hc10 hj1 => ?_) (fun hc10 hj1 => ?_)
 ·refine rg 0 ?_
  exact hR1 _ (sj hj1).symm _ _ (li (.u4 (.s (.s (.s (.u2 (.s (.u16 (.u16 (.u8 (.u .n)))))))))))
 refine .r fun K20 k20 => (k20 _ _ ?_)
 refine .ak rfl hj1 (fun hc11 hj1 => ?_) (fun hc11 hj1 => ?_)
 ·refine rg 0 ?_
  exact hR1 _ (sj hj1).symm _ _ (li (.u4 (.s (.s (.s (.u2 (.s (.u16 (.u16 (.u8 (.u .n)))))))))))
 refine .r fun K21 k21 => (k21 _ _ ?_)
 refine .ret ?_
 obtain rfl := sj hj1
 dsimp only [LR.el] at h
 obtain rfl := sj h
 exact hQ _ _ _ (rI [0])
theorem F8 (n : Nat) (qd2 : (List Ty) → Int → Int → Int → Int → Option (Int × Int)) (qdy : (List Ty) → Int → Int → Int → Int → Option (Bool × Int)) (qd6 : Int → Int → Int → Ty → Int → Bool → Option (Bool × Int)) (qd7 : Ty → Int → Int → Int → Int → Option (Bool × Int)) (qcc : qeq qd2) (qb8 : qem qdy) (qcg : qeu qd6) (qch : qet qd7) (p0 : Ty) (p1 p2 : Int) (p3 p4 : Int) (r : Bool × Int) (h : kR n qd2 qdy qd6 qd7 p0 p1 p2 p3 p4 = some r) : aB Tryz.prog 244 [bn p0, .ptr 0 0, .ptr 2 0] [.box [.ptr 1 0], .box [.i p1, .i p2, .i p3], .box [.i p4]] (.bool r.1) [.box [.ptr 1 0], .box [.i r.2, .i p2, .i p3], .box [.i p4]] := by
 unfold kR at h
 refine ah true Tryz.func244 rfl (nt Tryz.ntmps244 rfl) fun Q hQ t ht => ?_
 conv at ht => whnf
 subst ht
 refine .r1 fun K1 k1 => (k1 _ _ ?_)
 refine .r fun K2 k2 => (⟨(IntKind.wrap .i64 (p4 + 1)), rfl, ?_⟩)
 obtain ⟨x1, hx1, h⟩ := ob h
 refine bZ [1] [] [.ptr 0 0, bn p0, .i (IntKind.wrap .i64 (p4 + 1)), .bool true] [.ptr 1 0, bn p0, .i (IntKind.wrap .i64 (p4 + 1)), .bool true] (qcg _ _ _ _ _ _ _ hx1) aM rfl (.cons (rfl) .nil) (by simp; try decide) (.cons (.same _) (.cons (.same _) (.cons (.same _) (.cons (.same _) .nil)))) (rn := .bool x1.1) (rfl) (Hn := [.box [.i x1.2, .i p2, .i p3]]) ((bN (rfl) rfl)) (k2 _ _ ?_)
 refine .ret ?_
 obtain rfl := sj h
 refine hQ _ _ _ (rI [0, 1, 2] rfl (.cons (rfl) (.cons (rfl) (.cons (rfl) .nil))) ?_)
 exact fin
theorem qJ (n : Nat) : qeq (iC n) ∧ qem (eB n) ∧ qeu (gD n) ∧ qet (eP n) := by
 induction n with
 | zero => exact ⟨(fun p0 p1 p2 p3 p4 r h => by unfold iC at h; cases h), (fun p0 p1 p2 p3 p4 r h => by unfold eB at h; cases h), (fun p0 p1 p2 p3 p4 p5 r h => by unfold gD at h; cases h), (fun p0 p1 p2 p3 p4 r h => by unfold eP at h; cases h)⟩
 | succ n ih =>
  exact ⟨(fun p0 p1 p2 p3 p4 r h => G8 n _ _ _ _ ih.1 ih.2.1 ih.2.2.1 ih.2.2.2 p0 p1 p2 p3 p4 r (by unfold iC at h; exact h)), (fun p0 p1 p2 p3 p4 r h => Fg n _ _ _ _ ih.1 ih.2.1 ih.2.2.1 ih.2.2.2 p0 p1 p2 p3 p4 r (by unfold eB at h; exact h)), (fun p0 p1 p2 p3 p4 p5 r h => GY n _ _ _ _ ih.1 ih.2.1 ih.2.2.1 ih.2.2.2 p0 p1 p2 p3 p4 p5 r (by unfold gD at h; exact h)), (fun p0 p1 p2 p3 p4 r h => F8 n _ _ _ _ ih.1 ih.2.1 ih.2.2.1 ih.2.2.2 p0 p1 p2 p3 p4 r (by unfold eP at h; exact h))⟩
theorem Lj (n : Nat) : qeu (gD n) := (qJ n).2.2.1
end Abs
end Go.Proofs.YtiiaccpcoclklaaGreat

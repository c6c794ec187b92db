/-
  Plain functions and the contracts of Go functions by them (printed by gen.py). Conditions: none. Plain functions and the contracts of Go functions by them (printed by gen.py). Conditions: none.
-/
import Derived.Test.YtiiaccpcoclklaaGreatBTypingUnionsProof5
import Derived.Test.YtiiaccpcoclklaaGreatBTypingUnionsProof7
import Derived.KernelRfl
import Derived.Test.YtiiaccpcoclklaaGreatBTypingUnionsProof6
set_option linter.unusedSimpArgs false
set_option linter.unusedVariables false
namespace Go.Proofs.YtiiaccpcoclklaaGreat
namespace Abs
open Go Go.Proofs
def typing_Carriers (n : Nat) (p0 : Ty) : Option (List Str) := ((term_ValidType n p0).bind fun (x1 : Bool) => (cond (!x1) (some ([] : List Str)) ((typing_collect n p0 ([] : List (Str × Bool))).bind fun (x2 : List (Str × Bool)) => ((slices_Sorted_string n x2).bind fun (x3 : List Str) => some x3))))
set_option maxRecDepth 100000 in
set_option maxHeartbeats 40000000 in
theorem typing_Carriers_ok (n : Nat) (p0 : Ty) (r : List Str) (h : typing_Carriers n p0 = some r) : ACalls Tryz.prog 45 [.agg [.int .i64 p0.kind, .str p0.name, .slice (List.map encTy p0.kids) .shared]] [] (.slice (List.map encS r) .shared) [] := by
  unfold typing_Carriers at h
  refine acalls_start true Tryz.func45 rfl (by rw [Tryz.ntmps45]; exact Nat.le_of_ble_eq_true rfl) fun Q hQ t ht => ?_
  conv at ht => whnf
  subst ht
  refine AW.seqK fun K1 hK1 => ?_
  refine AW.region τ_ok mixedO 1 ?_
  conv => whnf
  refine hK1 _ _ ?_
  refine AW.seqK fun K2 hK2 => ?_
  refine AW.seqK fun K3 hK3 => ?_
  refine AW.region τ_ok mixedO 0 ?_
  conv => whnf
  obtain ⟨x1, hx1, h⟩ := ob h
  refine call_pur (term_ValidType_ok _ _ _ hx1) okF_92 (.cons (.same _) .nil) (fun g => by simp only [ren, renL, renLL, renT, renL_app, renl_I, renl_S, renl_U8, renl_Ty, renl_Tm, renl_Carrier, renl_Decl]) (fun g => rfl) ?_
  conv => whnf
  refine hK3 _ _ ?_
  refine AW.condS rfl h (fun hc1 h => ?_) (fun hc1 h => ?_)
  · refine AW.seqK fun K4 hK4 => ?_
    refine AW.region τ_ok mixedO 0 ?_
    conv => whnf
    refine hK4 _ _ ?_
    refine AW.ret ?_
    conv => whnf
    have e9 := Option.some.inj h
    subst e9
    refine hQ _ _ _ (retPure τ_ok (fun g => by simp only [ren, renL, renLL, renT, renL_app, renl_I, renl_S, renl_U8, renl_Ty, renl_Tm, renl_Carrier, renl_Decl]) ?_)
    conv => whnf
    try rfl
  · refine AW.skip ?_
    conv => whnf
    refine hK2 _ _ ?_
    refine AW.seqK fun K5 hK5 => ?_
    refine AW.region τ_ok mixedO 1 ?_
    conv => whnf
    refine hK5 _ _ ?_
    refine AW.seqK fun K6 hK6 => ?_
    refine AW.region τ_ok mixedO 0 ?_
    conv => whnf
    obtain ⟨x2, hx2, h⟩ := ob h
    refine call_gen [1] [] [.agg [.int .i64 p0.kind, .str p0.name, .slice (List.map encTy p0.kids) .shared], .mapr 0] [.agg [.int .i64 p0.kind, .str p0.name, .slice (List.map encTy p0.kids) .shared], .mapr 1] (typing_collect_ok _ _ _ _ hx2) okF_103 rfl (.cons (congrArg AObj.mp (renm (f := (fun (x : Bool) => .bool x)) (fun g x => rfl) _ _)) .nil) (by simp only [ren, renL, renLL, renT, renL_app, renl_I, renl_S, renl_U8, renl_Ty, renl_Tm, renl_Carrier, renl_Decl]; try rfl) (.cons (.same _) (.cons (.same _) .nil)) (rn := .tup []) (rfl) (Hn := [.mp (List.map (fun p => (p.1, (fun (x : Bool) => .bool x) p.2)) x2)]) ((rcons (congrArg AObj.mp (renm (f := (fun (x : Bool) => .bool x)) (fun g x => rfl) _ _)) rfl)) ?_
    conv => whnf
    refine hK6 _ _ ?_
    refine AW.seqK fun K7 hK7 => ?_
    refine AW.region τ_ok mixedO 1 ?_
    conv => whnf
    refine call_gen [1] [2] [.mapr 0] [.mapr 1] (maps_Keys_bool_ok 0 x2 _ rfl) okF_105 rfl (.cons (congrArg AObj.mp (renm (f := (fun (x : Bool) => .bool x)) (fun g x => rfl) _ _)) .nil) (by simp only [ren, renL, renLL, renT, renL_app, renl_I, renl_S, renl_U8, renl_Ty, renl_Tm, renl_Carrier, renl_Decl]; try rfl) (.cons (.same _) .nil) (rn := .func 185 [.ptr 2 0]) (by simp only [ren, renL, renLL, renT, renL_app, renl_I, renl_S, renl_U8, renl_Ty, renl_Tm, renl_Carrier, renl_Decl]; try rfl) (Hn := [.mp (List.map (fun p => (p.1, (fun (x : Bool) => .bool x) p.2)) x2), .box [.mapr 1]]) ((rcons (congrArg AObj.mp (renm (f := (fun (x : Bool) => .bool x)) (fun g x => rfl) _ _)) (rcons rfl rfl))) ?_
    conv => whnf
    obtain ⟨x3, hx3, h⟩ := ob h
    refine call_gen [1, 2] [] [.func 185 [.ptr 1 0]] [.func 185 [.ptr 2 0]] (slices_Sorted_string_ok _ _ _ hx3) okF_104 rfl (.cons (congrArg AObj.mp (renm (f := (fun (x : Bool) => .bool x)) (fun g x => rfl) _ _)) (.cons rfl .nil)) (by simp only [ren, renL, renLL, renT, renL_app, renl_I, renl_S, renl_U8, renl_Ty, renl_Tm, renl_Carrier, renl_Decl]; try rfl) (.cons (.same _) .nil) (rn := .slice (List.map encS x3) .shared) (by simp only [ren, renL, renLL, renT, renL_app, renl_I, renl_S, renl_U8, renl_Ty, renl_Tm, renl_Carrier, renl_Decl]; try rfl) (Hn := [.mp (List.map (fun p => (p.1, (fun (x : Bool) => .bool x) p.2)) x2), .box [.mapr 1]]) ((rcons (congrArg AObj.mp (renm (f := (fun (x : Bool) => .bool x)) (fun g x => rfl) _ _)) (rcons rfl rfl))) ?_
    conv => whnf
    refine hK7 _ _ ?_
    refine AW.ret ?_
    conv => whnf
    have e9 := Option.some.inj h
    subst e9
    refine hQ _ _ _ (retPure τ_ok (fun g => by simp only [ren, renL, renLL, renT, renL_app, renl_I, renl_S, renl_U8, renl_Ty, renl_Tm, renl_Carrier, renl_Decl]) ?_)
    conv => whnf
    try rfl
def typing_hasCarrier_1 (n : Nat) (p0 : Carrier) (p1 : Str) : Option Bool := some (p0.name == p1)
set_option maxRecDepth 100000 in
set_option maxHeartbeats 40000000 in
theorem typing_hasCarrier_1_ok (n : Nat) (p0 : Carrier) (p1 : Str) (r : Bool) (h : typing_hasCarrier_1 n p0 p1 = some r) : ACalls Tryz.prog 248 [.agg [.str p0.name, .slice (List.map encS p0.elems) .shared], .ptr 0 0] [.box [.str p1]] (.bool r) [.box [.str p1]] := by
  unfold typing_hasCarrier_1 at h
  refine acalls_start true Tryz.func248 rfl (by rw [Tryz.ntmps248]; exact Nat.le_of_ble_eq_true rfl) fun Q hQ t ht => ?_
  conv at ht => whnf
  subst ht
  refine AW.seqK fun K1 hK1 => ?_
  refine AW.region τ_ok mixedO 1 ?_
  conv => whnf
  refine hK1 _ _ ?_
  refine AW.seqK fun K2 hK2 => ?_
  refine AW.region τ_ok mixedO 0 ?_
  conv => whnf
  refine hK2 _ _ ?_
  refine AW.ret ?_
  conv => whnf
  have e9 := Option.some.inj h
  subst e9
  refine hQ _ _ _ (retW (u2 (.unk :: (.bool (p0.name == p1) :: (u4 [])))) [.box [.str p1]] (Le.of [some 0] (Weak.mk' rfl (.u2 (.cons (.unk _) (.cons (.same rfl) (.u4 .nil)))) (.old (.box' (.cons (.same rfl) .nil)) .nil))) (retObj τ_ok [0] rfl (.cons (rfl) .nil) ?_))
  conv => whnf
  first | rfl | (simp only [ren, renL, renLL, renT, renL_app, renl_I, renl_S, renl_U8, renl_Ty, renl_Tm, renl_Carrier, renl_Decl]; done) | (simp only [ren, renL, renLL, renT, renL_app, renl_I, renl_S, renl_U8, renl_Ty, renl_Tm, renl_Carrier, renl_Decl]; rfl)
def slices_IndexFunc_Carrier_L0 (n : Nat) (p0 : List Carrier) (p1 : Str) : Nat → Int → Option (LR Unit Int)
  | 0, _ => none
  | k + 1, s1 => (cond (decide (s1 < (p0.length : Int))) ((idx p0 s1).bind fun (x1 : Carrier) => (cond (x1.name == p1) (some (.rt s1)) (slices_IndexFunc_Carrier_L0 n p0 p1 k (s1 + 1)))) (some (.nx ())))
def slices_IndexFunc_Carrier (n : Nat) (p0 : List Carrier) (p1 : Str) : Option Int := ((slices_IndexFunc_Carrier_L0 n p0 p1 n 0).bind (LR.el (fun (s2 : Unit) => some (-1)) (fun r => some r)))
set_option maxRecDepth 100000 in
set_option maxHeartbeats 40000000 in
theorem slices_IndexFunc_Carrier_ok (n : Nat) (p0 : List Carrier) (p1 : Str) (r : Int) (h : slices_IndexFunc_Carrier n p0 p1 = some r) : ACalls Tryz.prog 123 [.slice (List.map encCarrier p0) .shared, .func 248 [.ptr 0 0]] [.box [.str p1]] (.int .i64 r) [.box [.str p1]] := by
  unfold slices_IndexFunc_Carrier at h
  refine acalls_start true Tryz.func123 rfl (by rw [Tryz.ntmps123]; exact Nat.le_of_ble_eq_true rfl) fun Q hQ t ht => ?_
  conv at ht => whnf
  subst ht
  refine AW.seqK fun K1 hK1 => ?_
  refine AW.region τ_ok mixedO 0 ?_
  conv => whnf
  refine hK1 _ _ ?_
  refine AW.seqK fun K2 hK2 => ?_
  refine AW.seqK fun K3 hK3 => ?_
  refine AW.region τ_ok mixedO 0 ?_
  conv => whnf
  refine len_of (l := p0) (f := encCarrier) ?_
  conv => whnf
  refine hK3 _ _ ?_
  refine AW.block ?_
  obtain ⟨o1, ho1, h⟩ := ob h
  have hR1 : ∀ s2 : Unit, o1 = .nx s2 → ∀ t9 h9, Le 1 t9 h9 (u16 (u2 (.unk :: []))) [.box [.str p1]] → K2 t9 h9 := by
    intro s2 ho
    subst ho
    dsimp only [LR.el] at h
    intro t9 h9 hw
    refine hK2 _ _ (AW.le hw ?_)
    refine AW.seqK fun K4 hK4 => ?_
    refine AW.region τ_ok mixedO 0 ?_
    conv => whnf
    refine hK4 _ _ ?_
    refine AW.ret ?_
    conv => whnf
    have e9 := Option.some.inj h
    subst e9
    refine hQ _ _ _ (retW (u4 (.int .i64 (-1) :: (u8 (u4 (u2 []))))) [.box [.str p1]] (Le.of [some 0] (Weak.mk' rfl (.u4 (.cons (.same rfl) (.u8 (.u4 (.u2 .nil))))) (.old (.box' (.cons (.same rfl) .nil)) .nil))) (retObj τ_ok [0] rfl (.cons (rfl) .nil) ?_))
    conv => whnf
    first | rfl | (simp only [ren, renL, renLL, renT, renL_app, renl_I, renl_S, renl_U8, renl_Ty, renl_Tm, renl_Carrier, renl_Decl]; done) | (simp only [ren, renL, renLL, renT, renL_app, renl_I, renl_S, renl_U8, renl_Ty, renl_Tm, renl_Carrier, renl_Decl]; rfl)
  refine AW.loopS (slices_IndexFunc_Carrier_L0 n p0 p1) (fun (s1 : Int) => (.slice (List.map encCarrier p0) .shared :: (.func 248 [.ptr 0 0] :: (u4 (.unk :: (.int .i64 (p0.length : Int) :: (.int .i64 s1 :: (u8 (u2 []))))))))) (fun (s1 : Int) => [.box [.str p1]]) ho1 (fun _ => rfl) (Le.of [some 0] (Weak.mk' rfl (.cons (.share (renl_Carrier _ _)) (.cons (.func' (.cons (.same rfl) .nil)) (.u4 (.cons (.unk _) (.cons (.same rfl) (.cons (.same rfl) (.u8 (.u2 .nil)))))))) (.old (.box' (.cons (.same rfl) .nil)) .nil))) ?_
  intro n1 s1 hs1 KL1 hKL1
  unfold slices_IndexFunc_Carrier_L0 at hs1
  refine AW.seqK fun K5 hK5 => ?_
  refine AW.region τ_ok mixedO 0 ?_
  conv => whnf
  refine hK5 _ _ ?_
  refine AW.seqK fun K6 hK6 => ?_
  refine AW.condS rfl hs1 (fun hc1 hs1 => ?_) (fun hc1 hs1 => ?_)
  · refine AW.skip ?_
    conv => whnf
    refine hK6 _ _ ?_
    refine AW.seqK fun K7 hK7 => ?_
    refine AW.block ?_
    refine AW.seqK fun K8 hK8 => ?_
    refine AW.region τ_ok mixedO 0 ?_
    conv => whnf
    refine hK8 _ _ ?_
    refine AW.seqK fun K9 hK9 => ?_
    refine AW.region τ_ok mixedO 0 ?_
    conv => whnf
    obtain ⟨x1, hx1, hs1⟩ := ob hs1
    refine idx_of (l := p0) (f := encCarrier) (cs := [.str ((x1).name), .slice (List.map encS ((x1).elems)) .shared]) hx1 (rfl) rfl ?_
    conv => whnf
    refine call_gen [0] [] [.agg [.str x1.name, .slice (List.map encS x1.elems) .shared], .ptr 0 0] [.agg [.str x1.name, .slice (List.map encS x1.elems) .shared], .ptr 0 0] (typing_hasCarrier_1_ok 0 x1 p1 _ rfl) okF_248 rfl (.cons (rfl) .nil) (by simp only [ren, renL, renLL, renT, renL_app, renl_I, renl_S, renl_U8, renl_Ty, renl_Tm, renl_Carrier, renl_Decl]; try rfl) (.cons (.same _) (.cons (.same _) .nil)) (rn := .bool (x1.name == p1)) (rfl) (Hn := [.box [.str p1]]) ((rcons (rfl) rfl)) ?_
    conv => whnf
    refine hK9 _ _ ?_
    refine AW.condS rfl hs1 (fun hc2 hs1 => ?_) (fun hc2 hs1 => ?_)
    · refine AW.seqK fun K10 hK10 => ?_
      refine AW.region τ_ok mixedO 0 ?_
      conv => whnf
      refine hK10 _ _ ?_
      refine AW.ret ?_
      conv => whnf
      have e9 := Option.some.inj hs1
      subst e9
      dsimp only [LR.el] at h
      have e9 := Option.some.inj h
      subst e9
      refine hQ _ _ _ (retW (u4 (.int .i64 s1 :: (u8 (u4 (u2 []))))) [.box [.str p1]] (Le.of [some 0] (Weak.mk' rfl (.u4 (.cons (.same rfl) (.u8 (.u4 (.u2 .nil))))) (.old (.box' (.cons (.same rfl) .nil)) .nil))) (retObj τ_ok [0] rfl (.cons (rfl) .nil) ?_))
      conv => whnf
      first | rfl | (simp only [ren, renL, renLL, renT, renL_app, renl_I, renl_S, renl_U8, renl_Ty, renl_Tm, renl_Carrier, renl_Decl]; done) | (simp only [ren, renL, renLL, renT, renL_app, renl_I, renl_S, renl_U8, renl_Ty, renl_Tm, renl_Carrier, renl_Decl]; rfl)
    · refine AW.skip ?_
      conv => whnf
      refine hK7 _ _ ?_
      refine AW.know 5 0 fun hv1 => ?_
      refine AW.know 0 0 fun hv2 => ?_
      refine AW.region τ_ok mixedO 0 ?_
      conv => whnf
      refine ⟨(s1 + 1), by have := wf64 hv1; have := vfl hv2; have h8 := of_decide_eq_true hc1; exact w64_id (by omega) (by omega), ?_⟩
      conv => whnf
      exact hKL1 _ _ _ hs1 (Le.of [some 0] (Weak.mk' rfl (.cons (.share (renl_Carrier _ _)) (.cons (.func' (.cons (.same rfl) .nil)) (.u4 (.cons (.unk _) (.cons (.same rfl) (.cons (.same rfl) (.u8 (.u2 .nil)))))))) (.old (.box' (.cons (.same rfl) .nil)) .nil)))
  · refine AW.exit ?_
    conv => whnf
    exact hR1 _ (Option.some.inj hs1).symm _ _ (Le.of [some 0] (Weak.mk' rfl (.u16 (.u2 (.cons (.unk _) .nil))) (.old (.box' (.cons (.same rfl) .nil)) .nil)))
def slices_ContainsFunc_Carrier (n : Nat) (p0 : List Carrier) (p1 : Str) : Option Bool := ((slices_IndexFunc_Carrier n p0 p1).bind fun (x1 : Int) => some (decide (0 ≤ x1)))
set_option maxRecDepth 100000 in
set_option maxHeartbeats 40000000 in
theorem slices_ContainsFunc_Carrier_ok (n : Nat) (p0 : List Carrier) (p1 : Str) (r : Bool) (h : slices_ContainsFunc_Carrier n p0 p1 = some r) : ACalls Tryz.prog 247 [.slice (List.map encCarrier p0) .shared, .func 248 [.ptr 0 0]] [.box [.str p1]] (.bool r) [.box [.str p1]] := by
  unfold slices_ContainsFunc_Carrier at h
  refine acalls_start true Tryz.func247 rfl (by rw [Tryz.ntmps247]; exact Nat.le_of_ble_eq_true rfl) fun Q hQ t ht => ?_
  conv at ht => whnf
  subst ht
  refine AW.seqK fun K1 hK1 => ?_
  refine AW.region τ_ok mixedO 0 ?_
  conv => whnf
  refine hK1 _ _ ?_
  refine AW.seqK fun K2 hK2 => ?_
  refine AW.region τ_ok mixedO 0 ?_
  conv => whnf
  obtain ⟨x1, hx1, h⟩ := ob h
  refine call_gen [0] [] [.slice (List.map encCarrier p0) .shared, .func 248 [.ptr 0 0]] [.slice (List.map encCarrier p0) .shared, .func 248 [.ptr 0 0]] (slices_IndexFunc_Carrier_ok _ _ _ _ hx1) okF_123 rfl (.cons (rfl) .nil) (by simp only [ren, renL, renLL, renT, renL_app, renl_I, renl_S, renl_U8, renl_Ty, renl_Tm, renl_Carrier, renl_Decl]; try rfl) (.cons (.same _) (.cons (.same _) .nil)) (rn := .int .i64 x1) (rfl) (Hn := [.box [.str p1]]) ((rcons (rfl) rfl)) ?_
  conv => whnf
  refine hK2 _ _ ?_
  refine AW.ret ?_
  conv => whnf
  have e9 := Option.some.inj h
  subst e9
  refine hQ _ _ _ (retW (u4 (.bool (decide (0 ≤ x1)) :: (u4 []))) [.box [.str p1]] (Le.of [some 0] (Weak.mk' rfl (.u4 (.cons (.same rfl) (.u4 .nil))) (.old (.box' (.cons (.same rfl) .nil)) .nil))) (retObj τ_ok [0] rfl (.cons (rfl) .nil) ?_))
  conv => whnf
  first | rfl | (simp only [ren, renL, renLL, renT, renL_app, renl_I, renl_S, renl_U8, renl_Ty, renl_Tm, renl_Carrier, renl_Decl]; done) | (simp only [ren, renL, renLL, renT, renL_app, renl_I, renl_S, renl_U8, renl_Ty, renl_Tm, renl_Carrier, renl_Decl]; rfl)
def typing_hasCarrier (n : Nat) (p0 : Env) (p1 : Str) : Option Bool := ((slices_ContainsFunc_Carrier n p0.carriers p1).bind fun (x1 : Bool) => some x1)
set_option maxRecDepth 100000 in
set_option maxHeartbeats 40000000 in
theorem typing_hasCarrier_ok (n : Nat) (p0 : Env) (p1 : Str) (r : Bool) (h : typing_hasCarrier n p0 p1 = some r) : ACalls Tryz.prog 182 [.agg [.slice (List.map encCarrier p0.carriers) .shared, .slice (List.map encDecl p0.names) .shared], .str p1] [] (.bool r) [] := by
  unfold typing_hasCarrier at h
  refine acalls_start true Tryz.func182 rfl (by rw [Tryz.ntmps182]; exact Nat.le_of_ble_eq_true rfl) fun Q hQ t ht => ?_
  conv at ht => whnf
  subst ht
  refine AW.seqK fun K1 hK1 => ?_
  refine AW.region τ_ok mixedO 2 ?_
  conv => whnf
  refine hK1 _ _ ?_
  refine AW.seqK fun K2 hK2 => ?_
  refine AW.region τ_ok mixedO 0 ?_
  conv => whnf
  obtain ⟨x1, hx1, h⟩ := ob h
  refine call_gen [1] [] [.slice (List.map encCarrier p0.carriers) .shared, .func 248 [.ptr 0 0]] [.slice (List.map encCarrier p0.carriers) .shared, .func 248 [.ptr 1 0]] (slices_ContainsFunc_Carrier_ok _ _ _ _ hx1) okF_247 rfl (.cons (rfl) .nil) (by simp only [ren, renL, renLL, renT, renL_app, renl_I, renl_S, renl_U8, renl_Ty, renl_Tm, renl_Carrier, renl_Decl]; try rfl) (.cons (.same _) (.cons (.same _) .nil)) (rn := .bool x1) (rfl) (Hn := [.box [.str p1]]) ((rcons (rfl) rfl)) ?_
  conv => whnf
  refine hK2 _ _ ?_
  refine AW.ret ?_
  conv => whnf
  have e9 := Option.some.inj h
  subst e9
  refine hQ _ _ _ (retPure τ_ok (fun g => rfl) ?_)
  conv => whnf
def typing_mentions_1 (n : Nat) (p0 : Str) (p1 : List Carrier) (p2 : List Decl) : Option Bool := ((typing_hasCarrier n (Env.mk p1 p2) p0).bind fun (x1 : Bool) => some (!x1))
set_option maxRecDepth 100000 in
set_option maxHeartbeats 40000000 in
theorem typing_mentions_1_ok (n : Nat) (p0 : Str) (p1 : List Carrier) (p2 : List Decl) (r : Bool) (h : typing_mentions_1 n p0 p1 p2 = some r) : ACalls Tryz.prog 181 [.str p0, .ptr 0 0] [.box [.slice (List.map encCarrier p1) .shared, .slice (List.map encDecl p2) .shared]] (.bool r) [.box [.slice (List.map encCarrier p1) .shared, .slice (List.map encDecl p2) .shared]] := by
  unfold typing_mentions_1 at h
  refine acalls_start true Tryz.func181 rfl (by rw [Tryz.ntmps181]; exact Nat.le_of_ble_eq_true rfl) fun Q hQ t ht => ?_
  conv at ht => whnf
  subst ht
  refine AW.seqK fun K1 hK1 => ?_
  refine AW.region τ_ok mixedO 0 ?_
  conv => whnf
  refine hK1 _ _ ?_
  refine AW.seqK fun K2 hK2 => ?_
  refine AW.region τ_ok mixedO 0 ?_
  conv => whnf
  obtain ⟨x1, hx1, h⟩ := ob h
  refine call_pur (typing_hasCarrier_ok _ _ _ _ hx1) okF_182 (.cons (.same _) (.cons (.same _) .nil)) (fun g => by simp only [ren, renL, renLL, renT, renL_app, renl_I, renl_S, renl_U8, renl_Ty, renl_Tm, renl_Carrier, renl_Decl]) (fun g => rfl) ?_
  conv => whnf
  refine hK2 _ _ ?_
  refine AW.ret ?_
  conv => whnf
  have e9 := Option.some.inj h
  subst e9
  refine hQ _ _ _ (retW (u2 (.unk :: (.bool (!x1) :: (u4 [])))) [.box [.slice (List.map encCarrier p1) .shared, .slice (List.map encDecl p2) .shared]] (Le.of [some 0] (Weak.mk' rfl (.u2 (.cons (.unk _) (.cons (.same rfl) (.u4 .nil)))) (.old (.box' (.cons (.share (renl_Carrier _ _)) (.cons (.share (renl_Decl _ _)) .nil))) .nil))) (retObj τ_ok [0] rfl (.cons (by simp only [renO, ren, renL, renLL, renT, renL_app, renl_I, renl_S, renl_U8, renl_Ty, renl_Tm, renl_Carrier, renl_Decl]; try rfl) .nil) ?_))
  conv => whnf
  first | rfl | (simp only [ren, renL, renLL, renT, renL_app, renl_I, renl_S, renl_U8, renl_Ty, renl_Tm, renl_Carrier, renl_Decl]; done) | (simp only [ren, renL, renLL, renT, renL_app, renl_I, renl_S, renl_U8, renl_Ty, renl_Tm, renl_Carrier, renl_Decl]; rfl)
def slices_IndexFunc_string_L0 (n : Nat) (p0 : List Str) (p1 : List Carrier) (p2 : List Decl) : Nat → Int → Option (LR Unit Int)
  | 0, _ => none
  | k + 1, s1 => (cond (decide (s1 < (p0.length : Int))) ((idx p0 s1).bind fun (x1 : Str) => ((typing_mentions_1 n x1 p1 p2).bind fun (x2 : Bool) => (cond x2 (some (.rt s1)) (slices_IndexFunc_string_L0 n p0 p1 p2 k (s1 + 1))))) (some (.nx ())))
def slices_IndexFunc_string (n : Nat) (p0 : List Str) (p1 : List Carrier) (p2 : List Decl) : Option Int := ((slices_IndexFunc_string_L0 n p0 p1 p2 n 0).bind (LR.el (fun (s2 : Unit) => some (-1)) (fun r => some r)))
set_option maxRecDepth 100000 in
set_option maxHeartbeats 40000000 in
theorem slices_IndexFunc_string_ok (n : Nat) (p0 : List Str) (p1 : List Carrier) (p2 : List Decl) (r : Int) (h : slices_IndexFunc_string n p0 p1 p2 = some r) : ACalls Tryz.prog 246 [.slice (List.map encS p0) .shared, .func 181 [.ptr 0 0]] [.box [.slice (List.map encCarrier p1) .shared, .slice (List.map encDecl p2) .shared]] (.int .i64 r) [.box [.slice (List.map encCarrier p1) .shared, .slice (List.map encDecl p2) .shared]] := by
  unfold slices_IndexFunc_string at h
  refine acalls_start true Tryz.func246 rfl (by rw [Tryz.ntmps246]; exact Nat.le_of_ble_eq_true rfl) fun Q hQ t ht => ?_
  conv at ht => whnf
  subst ht
  refine AW.seqK fun K1 hK1 => ?_
  refine AW.region τ_ok mixedO 0 ?_
  conv => whnf
  refine hK1 _ _ ?_
  refine AW.seqK fun K2 hK2 => ?_
  refine AW.seqK fun K3 hK3 => ?_
  refine AW.region τ_ok mixedO 0 ?_
  conv => whnf
  refine len_of (l := p0) (f := encS) ?_
  conv => whnf
  refine hK3 _ _ ?_
  refine AW.block ?_
  obtain ⟨o1, ho1, h⟩ := ob h
  have hR1 : ∀ s2 : Unit, o1 = .nx s2 → ∀ t9 h9, Le 1 t9 h9 (u16 (u2 (.unk :: []))) [.box [.slice (List.map encCarrier p1) .shared, .slice (List.map encDecl p2) .shared]] → K2 t9 h9 := by
    intro s2 ho
    subst ho
    dsimp only [LR.el] at h
    intro t9 h9 hw
    refine hK2 _ _ (AW.le hw ?_)
    refine AW.seqK fun K4 hK4 => ?_
    refine AW.region τ_ok mixedO 0 ?_
    conv => whnf
    refine hK4 _ _ ?_
    refine AW.ret ?_
    conv => whnf
    have e9 := Option.some.inj h
    subst e9
    refine hQ _ _ _ (retW (u4 (.int .i64 (-1) :: (u8 (u4 (u2 []))))) [.box [.slice (List.map encCarrier p1) .shared, .slice (List.map encDecl p2) .shared]] (Le.of [some 0] (Weak.mk' rfl (.u4 (.cons (.same rfl) (.u8 (.u4 (.u2 .nil))))) (.old (.box' (.cons (.share (renl_Carrier _ _)) (.cons (.share (renl_Decl _ _)) .nil))) .nil))) (retObj τ_ok [0] rfl (.cons (by simp only [renO, ren, renL, renLL, renT, renL_app, renl_I, renl_S, renl_U8, renl_Ty, renl_Tm, renl_Carrier, renl_Decl]; try rfl) .nil) ?_))
    conv => whnf
    first | rfl | (simp only [ren, renL, renLL, renT, renL_app, renl_I, renl_S, renl_U8, renl_Ty, renl_Tm, renl_Carrier, renl_Decl]; done) | (simp only [ren, renL, renLL, renT, renL_app, renl_I, renl_S, renl_U8, renl_Ty, renl_Tm, renl_Carrier, renl_Decl]; rfl)
  refine AW.loopS (slices_IndexFunc_string_L0 n p0 p1 p2) (fun (s1 : Int) => (.slice (List.map encS p0) .shared :: (.func 181 [.ptr 0 0] :: (u4 (.unk :: (.int .i64 (p0.length : Int) :: (.int .i64 s1 :: (u8 (u2 []))))))))) (fun (s1 : Int) => [.box [.slice (List.map encCarrier p1) .shared, .slice (List.map encDecl p2) .shared]]) ho1 (fun _ => rfl) (Le.of [some 0] (Weak.mk' rfl (.cons (.share (renl_S _ _)) (.cons (.func' (.cons (.same rfl) .nil)) (.u4 (.cons (.unk _) (.cons (.same rfl) (.cons (.same rfl) (.u8 (.u2 .nil)))))))) (.old (.box' (.cons (.share (renl_Carrier _ _)) (.cons (.share (renl_Decl _ _)) .nil))) .nil))) ?_
  intro n1 s1 hs1 KL1 hKL1
  unfold slices_IndexFunc_string_L0 at hs1
  refine AW.seqK fun K5 hK5 => ?_
  refine AW.region τ_ok mixedO 0 ?_
  conv => whnf
  refine hK5 _ _ ?_
  refine AW.seqK fun K6 hK6 => ?_
  refine AW.condS rfl hs1 (fun hc1 hs1 => ?_) (fun hc1 hs1 => ?_)
  · refine AW.skip ?_
    conv => whnf
    refine hK6 _ _ ?_
    refine AW.seqK fun K7 hK7 => ?_
    refine AW.block ?_
    refine AW.seqK fun K8 hK8 => ?_
    refine AW.region τ_ok mixedO 0 ?_
    conv => whnf
    refine hK8 _ _ ?_
    refine AW.seqK fun K9 hK9 => ?_
    refine AW.region τ_ok mixedO 0 ?_
    conv => whnf
    obtain ⟨x1, hx1, hs1⟩ := ob hs1
    refine idx_of (l := p0) (f := encS) (cs := [.str (x1)]) hx1 (rfl) rfl ?_
    conv => whnf
    obtain ⟨x2, hx2, hs1⟩ := ob hs1
    refine call_gen [0] [] [.str x1, .ptr 0 0] [.str x1, .ptr 0 0] (typing_mentions_1_ok _ _ _ _ _ hx2) okF_181 rfl (.cons (by simp only [renO, ren, renL, renLL, renT, renL_app, renl_I, renl_S, renl_U8, renl_Ty, renl_Tm, renl_Carrier, renl_Decl]; try rfl) .nil) (rfl) (.cons (.same _) (.cons (.same _) .nil)) (rn := .bool x2) (rfl) (Hn := [.box [.slice (List.map encCarrier p1) .shared, .slice (List.map encDecl p2) .shared]]) ((rcons (by simp only [renO, ren, renL, renLL, renT, renL_app, renl_I, renl_S, renl_U8, renl_Ty, renl_Tm, renl_Carrier, renl_Decl]; try rfl) rfl)) ?_
    conv => whnf
    refine hK9 _ _ ?_
    refine AW.condS rfl hs1 (fun hc2 hs1 => ?_) (fun hc2 hs1 => ?_)
    · refine AW.seqK fun K10 hK10 => ?_
      refine AW.region τ_ok mixedO 0 ?_
      conv => whnf
      refine hK10 _ _ ?_
      refine AW.ret ?_
      conv => whnf
      have e9 := Option.some.inj hs1
      subst e9
      dsimp only [LR.el] at h
      have e9 := Option.some.inj h
      subst e9
      refine hQ _ _ _ (retW (u4 (.int .i64 s1 :: (u8 (u4 (u2 []))))) [.box [.slice (List.map encCarrier p1) .shared, .slice (List.map encDecl p2) .shared]] (Le.of [some 0] (Weak.mk' rfl (.u4 (.cons (.same rfl) (.u8 (.u4 (.u2 .nil))))) (.old (.box' (.cons (.share (renl_Carrier _ _)) (.cons (.share (renl_Decl _ _)) .nil))) .nil))) (retObj τ_ok [0] rfl (.cons (by simp only [renO, ren, renL, renLL, renT, renL_app, renl_I, renl_S, renl_U8, renl_Ty, renl_Tm, renl_Carrier, renl_Decl]; try rfl) .nil) ?_))
      conv => whnf
      first | rfl | (simp only [ren, renL, renLL, renT, renL_app, renl_I, renl_S, renl_U8, renl_Ty, renl_Tm, renl_Carrier, renl_Decl]; done) | (simp only [ren, renL, renLL, renT, renL_app, renl_I, renl_S, renl_U8, renl_Ty, renl_Tm, renl_Carrier, renl_Decl]; rfl)
    · refine AW.skip ?_
      conv => whnf
      refine hK7 _ _ ?_
      refine AW.know 5 0 fun hv1 => ?_
      refine AW.know 0 0 fun hv2 => ?_
      refine AW.region τ_ok mixedO 0 ?_
      conv => whnf
      refine ⟨(s1 + 1), by have := wf64 hv1; have := vfl hv2; have h8 := of_decide_eq_true hc1; exact w64_id (by omega) (by omega), ?_⟩
      conv => whnf
      exact hKL1 _ _ _ hs1 (Le.of [some 0] (Weak.mk' rfl (.cons (.share (renl_S _ _)) (.cons (.func' (.cons (.same rfl) .nil)) (.u4 (.cons (.unk _) (.cons (.same rfl) (.cons (.same rfl) (.u8 (.u2 .nil)))))))) (.old (.box' (.cons (.share (renl_Carrier _ _)) (.cons (.share (renl_Decl _ _)) .nil))) .nil)))
  · refine AW.exit ?_
    conv => whnf
    exact hR1 _ (Option.some.inj hs1).symm _ _ (Le.of [some 0] (Weak.mk' rfl (.u16 (.u2 (.cons (.unk _) .nil))) (.old (.box' (.cons (.share (renl_Carrier _ _)) (.cons (.share (renl_Decl _ _)) .nil))) .nil)))
def slices_ContainsFunc_string (n : Nat) (p0 : List Str) (p1 : List Carrier) (p2 : List Decl) : Option Bool := ((slices_IndexFunc_string n p0 p1 p2).bind fun (x1 : Int) => some (decide (0 ≤ x1)))
set_option maxRecDepth 100000 in
set_option maxHeartbeats 40000000 in
theorem slices_ContainsFunc_string_ok (n : Nat) (p0 : List Str) (p1 : List Carrier) (p2 : List Decl) (r : Bool) (h : slices_ContainsFunc_string n p0 p1 p2 = some r) : ACalls Tryz.prog 180 [.slice (List.map encS p0) .shared, .func 181 [.ptr 0 0]] [.box [.slice (List.map encCarrier p1) .shared, .slice (List.map encDecl p2) .shared]] (.bool r) [.box [.slice (List.map encCarrier p1) .shared, .slice (List.map encDecl p2) .shared]] := by
  unfold slices_ContainsFunc_string at h
  refine acalls_start true Tryz.func180 rfl (by rw [Tryz.ntmps180]; exact Nat.le_of_ble_eq_true rfl) fun Q hQ t ht => ?_
  conv at ht => whnf
  subst ht
  refine AW.seqK fun K1 hK1 => ?_
  refine AW.region τ_ok mixedO 0 ?_
  conv => whnf
  refine hK1 _ _ ?_
  refine AW.seqK fun K2 hK2 => ?_
  refine AW.region τ_ok mixedO 0 ?_
  conv => whnf
  obtain ⟨x1, hx1, h⟩ := ob h
  refine call_gen [0] [] [.slice (List.map encS p0) .shared, .func 181 [.ptr 0 0]] [.slice (List.map encS p0) .shared, .func 181 [.ptr 0 0]] (slices_IndexFunc_string_ok _ _ _ _ _ hx1) okF_246 rfl (.cons (by simp only [renO, ren, renL, renLL, renT, renL_app, renl_I, renl_S, renl_U8, renl_Ty, renl_Tm, renl_Carrier, renl_Decl]; try rfl) .nil) (by simp only [ren, renL, renLL, renT, renL_app, renl_I, renl_S, renl_U8, renl_Ty, renl_Tm, renl_Carrier, renl_Decl]; try rfl) (.cons (.same _) (.cons (.same _) .nil)) (rn := .int .i64 x1) (rfl) (Hn := [.box [.slice (List.map encCarrier p1) .shared, .slice (List.map encDecl p2) .shared]]) ((rcons (by simp only [renO, ren, renL, renLL, renT, renL_app, renl_I, renl_S, renl_U8, renl_Ty, renl_Tm, renl_Carrier, renl_Decl]; try rfl) rfl)) ?_
  conv => whnf
  refine hK2 _ _ ?_
  refine AW.ret ?_
  conv => whnf
  have e9 := Option.some.inj h
  subst e9
  refine hQ _ _ _ (retW (u4 (.bool (decide (0 ≤ x1)) :: (u4 []))) [.box [.slice (List.map encCarrier p1) .shared, .slice (List.map encDecl p2) .shared]] (Le.of [some 0] (Weak.mk' rfl (.u4 (.cons (.same rfl) (.u4 .nil))) (.old (.box' (.cons (.share (renl_Carrier _ _)) (.cons (.share (renl_Decl _ _)) .nil))) .nil))) (retObj τ_ok [0] rfl (.cons (by simp only [renO, ren, renL, renLL, renT, renL_app, renl_I, renl_S, renl_U8, renl_Ty, renl_Tm, renl_Carrier, renl_Decl]; try rfl) .nil) ?_))
  conv => whnf
  first | rfl | (simp only [ren, renL, renLL, renT, renL_app, renl_I, renl_S, renl_U8, renl_Ty, renl_Tm, renl_Carrier, renl_Decl]; done) | (simp only [ren, renL, renLL, renT, renL_app, renl_I, renl_S, renl_U8, renl_Ty, renl_Tm, renl_Carrier, renl_Decl]; rfl)
def typing_mentions (n : Nat) (p0 : Env) (p1 : Ty) : Option Bool := ((typing_Carriers n p1).bind fun (x1 : List Str) => ((slices_ContainsFunc_string n x1 p0.carriers p0.names).bind fun (x2 : Bool) => some (!x2)))
set_option maxRecDepth 100000 in
set_option maxHeartbeats 40000000 in
theorem typing_mentions_ok (n : Nat) (p0 : Env) (p1 : Ty) (r : Bool) (h : typing_mentions n p0 p1 = some r) : ACalls Tryz.prog 97 [.agg [.slice (List.map encCarrier p0.carriers) .shared, .slice (List.map encDecl p0.names) .shared], .agg [.int .i64 p1.kind, .str p1.name, .slice (List.map encTy p1.kids) .shared]] [] (.bool r) [] := by
  unfold typing_mentions at h
  refine acalls_start true Tryz.func97 rfl (by rw [Tryz.ntmps97]; exact Nat.le_of_ble_eq_true rfl) fun Q hQ t ht => ?_
  conv at ht => whnf
  subst ht
  refine AW.seqK fun K1 hK1 => ?_
  refine AW.region τ_ok mixedO 2 ?_
  conv => whnf
  refine hK1 _ _ ?_
  refine AW.seqK fun K2 hK2 => ?_
  refine AW.region τ_ok mixedO 0 ?_
  conv => whnf
  obtain ⟨x1, hx1, h⟩ := ob h
  refine call_pur (typing_Carriers_ok _ _ _ hx1) okF_45 (.cons (.same _) .nil) (fun g => by simp only [ren, renL, renLL, renT, renL_app, renl_I, renl_S, renl_U8, renl_Ty, renl_Tm, renl_Carrier, renl_Decl]) (fun g => by simp only [ren, renL, renLL, renT, renL_app, renl_I, renl_S, renl_U8, renl_Ty, renl_Tm, renl_Carrier, renl_Decl]) ?_
  conv => whnf
  obtain ⟨x2, hx2, h⟩ := ob h
  refine call_gen [0] [] [.slice (List.map encS x1) .shared, .func 181 [.ptr 0 0]] [.slice (List.map encS x1) .shared, .func 181 [.ptr 0 0]] (slices_ContainsFunc_string_ok _ _ _ _ _ hx2) okF_180 rfl (.cons (by simp only [renO, ren, renL, renLL, renT, renL_app, renl_I, renl_S, renl_U8, renl_Ty, renl_Tm, renl_Carrier, renl_Decl]; try rfl) .nil) (by simp only [ren, renL, renLL, renT, renL_app, renl_I, renl_S, renl_U8, renl_Ty, renl_Tm, renl_Carrier, renl_Decl]; try rfl) (.cons (.same _) (.cons (.same _) .nil)) (rn := .bool x2) (rfl) (Hn := [.box [.slice (List.map encCarrier p0.carriers) .shared, .slice (List.map encDecl p0.names) .shared]]) ((rcons (by simp only [renO, ren, renL, renLL, renT, renL_app, renl_I, renl_S, renl_U8, renl_Ty, renl_Tm, renl_Carrier, renl_Decl]; try rfl) rfl)) ?_
  conv => whnf
  refine hK2 _ _ ?_
  refine AW.ret ?_
  conv => whnf
  have e9 := Option.some.inj h
  subst e9
  refine hQ _ _ _ (retPure τ_ok (fun g => rfl) ?_)
  conv => whnf
def typing_declared_L1 (n : Nat) (p0 : Env) : Nat → ((List Str) × Int) → Option (LR (List Str) (List Str))
  | 0, _ => none
  | k + 1, s1 => (cond (decide (s1.2 < (p0.carriers.length : Int))) ((idx p0.carriers s1.2).bind fun (x3 : Carrier) => ((app 16 s1.1 ([x3.name])).bind fun (x4 : List Str) => ((app 16 x4 x3.elems).bind fun (x5 : List Str) => typing_declared_L1 n p0 k (x5, (s1.2 + 1))))) (some (.nx s1.1)))
def typing_declared_L0 (n : Nat) (p0 : Env) : Nat → ((List Str) × Int) → Option (LR (List Str) (List Str))
  | 0, _ => none
  | k + 1, s3 => (cond (decide (s3.2 < (p0.names.length : Int))) ((idx p0.names s3.2).bind fun (x1 : Decl) => ((app 16 s3.1 ([x1.name])).bind fun (x2 : List Str) => typing_declared_L0 n p0 k (x2, (s3.2 + 1)))) (some (.nx s3.1)))
def typing_declared (n : Nat) (p0 : Env) : Option (List Str) := ((typing_declared_L1 n p0 n (([] : List Str), 0)).bind (LR.el (fun (s2 : List Str) => ((typing_declared_L0 n p0 n (s2, 0)).bind (LR.el (fun (s4 : List Str) => some s4) (fun r => some r)))) (fun r => some r)))
set_option maxRecDepth 100000 in
set_option maxHeartbeats 40000000 in
theorem typing_declared_ok (n : Nat) (p0 : Env) (r : List Str) (h : typing_declared n p0 = some r) : ACalls Tryz.prog 114 [.agg [.slice (List.map encCarrier p0.carriers) .shared, .slice (List.map encDecl p0.names) .shared]] [] (.slice (List.map encS r) (.tip 0 1)) [.tip (List.length r * 1)] := by
  unfold typing_declared at h
  refine acalls_start false Tryz.func114 rfl (by rw [Tryz.ntmps114]; exact Nat.le_of_ble_eq_true rfl) fun Q hQ t ht => ?_
  conv at ht => whnf
  subst ht
  refine AW.seqK fun K1 hK1 => ?_
  refine AW.region τ_ok mixedO 1 ?_
  conv => whnf
  refine hK1 _ _ ?_
  refine AW.seqK fun K2 hK2 => ?_
  refine AW.region τ_ok mixedO 0 ?_
  conv => whnf
  refine hK2 _ _ ?_
  refine AW.seqK fun K3 hK3 => ?_
  refine AW.seqK fun K4 hK4 => ?_
  refine AW.region τ_ok mixedO 0 ?_
  conv => whnf
  refine len_of (l := p0.carriers) (f := encCarrier) ?_
  conv => whnf
  refine hK4 _ _ ?_
  refine AW.block ?_
  obtain ⟨o1, ho1, h⟩ := ob h
  have hR1 : ∀ s2 : List Str, o1 = .nx s2 → ∀ t9 h9, Le 0 t9 h9 (.unk :: (.ptr 0 0 :: (.unk :: (.slice (List.map encS s2) (.tip 1 1) :: (u32 (u2 [])))))) [.box [.slice (List.map encCarrier p0.carriers) .shared, .slice (List.map encDecl p0.names) .shared], .tip (List.length s2 * 1)] → K3 t9 h9 := by
    intro s2 ho
    subst ho
    dsimp only [LR.el] at h
    intro t9 h9 hw
    refine hK3 _ _ (AW.le hw ?_)
    refine AW.seqK fun K5 hK5 => ?_
    refine AW.seqK fun K6 hK6 => ?_
    refine AW.region τ_ok mixedO 0 ?_
    conv => whnf
    refine len_of (l := p0.names) (f := encDecl) ?_
    conv => whnf
    refine hK6 _ _ ?_
    refine AW.block ?_
    obtain ⟨o2, ho2, h⟩ := ob h
    have hR2 : ∀ s4 : List Str, o2 = .nx s4 → ∀ t9 h9, Le 0 t9 h9 (u2 (.unk :: (.slice (List.map encS s4) (.tip 0 1) :: (u32 (u2 []))))) [.tip (List.length s4 * 1)] → K5 t9 h9 := by
      intro s4 ho
      subst ho
      dsimp only [LR.el] at h
      intro t9 h9 hw
      refine hK5 _ _ (AW.le hw ?_)
      refine AW.seqK fun K7 hK7 => ?_
      refine AW.region τ_ok mixedO 0 ?_
      conv => whnf
      refine hK7 _ _ ?_
      refine AW.ret ?_
      conv => whnf
      have e9 := Option.some.inj h
      subst e9
      refine hQ _ _ _ (retW (u2 (.slice (List.map encS s4) (.tip 0 1) :: (u32 (u2 (.unk :: []))))) [.tip (List.length s4 * 1)] (Le.of [some 0] (Weak.mk' rfl (.u2 (.cons (.tipS (renl_S _ _) rfl) (.u32 (.u2 (.cons (.unk _) .nil))))) (.old (.tip _) .nil))) (retObj τ_ok [0] rfl (.cons (rfl) .nil) ?_))
      conv => whnf
      first | rfl | (simp only [ren, renL, renLL, renT, renL_app, renl_I, renl_S, renl_U8, renl_Ty, renl_Tm, renl_Carrier, renl_Decl]; done) | (simp only [ren, renL, renLL, renT, renL_app, renl_I, renl_S, renl_U8, renl_Ty, renl_Tm, renl_Carrier, renl_Decl]; rfl)
    refine AW.loopS (typing_declared_L0 n p0) (fun (s3 : (List Str) × Int) => (u2 (.unk :: (.slice (List.map encS s3.1) (.tip 0 1) :: (u16 (u4 (.unk :: (.slice (List.map encDecl p0.names) .shared :: (.int .i64 (p0.names.length : Int) :: (.int .i64 s3.2 :: (u8 (u2 [])))))))))))) (fun (s3 : (List Str) × Int) => [.tip (List.length s3.1 * 1)]) ho2 (fun _ => rfl) (Le.of [some 1] (Weak.mk' rfl (.u2 (.cons (.unk _) (.cons (.tipS (renl_S _ _) rfl) (.u16 (.u4 (.cons (.unk _) (.cons (.share (renl_Decl _ _)) (.cons (.same rfl) (.cons (.same rfl) (.u8 (.u2 .nil))))))))))) (.old (.tip _) .nil))) ?_
    intro n2 s3 hs2 KL2 hKL2
    unfold typing_declared_L0 at hs2
    refine AW.seqK fun K8 hK8 => ?_
    refine AW.region τ_ok mixedO 0 ?_
    conv => whnf
    refine hK8 _ _ ?_
    refine AW.seqK fun K9 hK9 => ?_
    refine AW.condS rfl hs2 (fun hc1 hs2 => ?_) (fun hc1 hs2 => ?_)
    · refine AW.skip ?_
      conv => whnf
      refine hK9 _ _ ?_
      refine AW.seqK fun K10 hK10 => ?_
      refine AW.block ?_
      refine AW.seqK fun K11 hK11 => ?_
      refine AW.region τ_ok mixedO 1 ?_
      conv => whnf
      obtain ⟨x1, hx1, hs2⟩ := ob hs2
      refine idx_of (l := p0.names) (f := encDecl) (cs := [.str ((x1).name), .int .i64 (((x1).ty).kind), .str (((x1).ty).name), .slice (List.map encTy (((x1).ty).kids)) .shared]) hx1 (rfl) rfl ?_
      conv => whnf
      refine hK11 _ _ ?_
      refine AW.region τ_ok mixedO 2 ?_
      conv => whnf
      refine ⟨List.map encS ([x1.name]), rfl, ?_⟩
      conv => whnf
      obtain ⟨x2, hx2, hs2⟩ := ob hs2
      refine app_tip (l := s3.1) (ys := [x1.name]) (f := encS) hx2 ok_S rfl rfl rfl ?_
      conv => whnf
      refine hK10 _ _ ?_
      refine AW.know 27 0 fun hv1 => ?_
      refine AW.know 25 0 fun hv2 => ?_
      refine AW.region τ_ok mixedO 0 ?_
      conv => whnf
      refine ⟨(s3.2 + 1), by have := wf64 hv1; have := vfl hv2; have h8 := of_decide_eq_true hc1; exact w64_id (by omega) (by omega), ?_⟩
      conv => whnf
      exact hKL2 _ _ _ hs2 (Le.of [some 3] (Weak.mk' rfl (.u2 (.cons (.unk _) (.cons (.tipS (renl_S _ _) rfl) (.u16 (.u4 (.cons (.unk _) (.cons (.share (renl_Decl _ _)) (.cons (.same rfl) (.cons (.same rfl) (.u8 (.u2 .nil))))))))))) (.old (.tip _) .nil)))
    · refine AW.exit ?_
      conv => whnf
      exact hR2 _ (Option.some.inj hs2).symm _ _ (Le.of [some 0] (Weak.mk' rfl (.u2 (.cons (.unk _) (.cons (.tipS (renl_S _ _) rfl) (.u32 (.u2 .nil))))) (.old (.tip _) .nil)))
  refine AW.loopS (typing_declared_L1 n p0) (fun (s1 : (List Str) × Int) => (.unk :: (.ptr 0 0 :: (.unk :: (.slice (List.map encS s1.1) (.tip 1 1) :: (u4 (.unk :: (.slice (List.map encCarrier p0.carriers) .shared :: (.int .i64 (p0.carriers.length : Int) :: (.int .i64 s1.2 :: (u16 (u8 (u2 []))))))))))))) (fun (s1 : (List Str) × Int) => [.box [.slice (List.map encCarrier p0.carriers) .shared, .slice (List.map encDecl p0.names) .shared], .tip (List.length s1.1 * 1)]) ho1 (fun _ => rfl) (Le.of [some 0, none] (Weak.mk' rfl (.cons (.unk _) (.cons (.same rfl) (.cons (.unk _) (.cons (.nils _ _) (.u4 (.cons (.unk _) (.cons (.share (renl_Carrier _ _)) (.cons (.same rfl) (.cons (.same rfl) (.u16 (.u8 (.u2 .nil)))))))))))) (.old (.box' (.cons (.share (renl_Carrier _ _)) (.cons (.share (renl_Decl _ _)) .nil))) (.new rfl .nil)))) ?_
  intro n1 s1 hs1 KL1 hKL1
  unfold typing_declared_L1 at hs1
  refine AW.seqK fun K12 hK12 => ?_
  refine AW.region τ_ok mixedO 0 ?_
  conv => whnf
  refine hK12 _ _ ?_
  refine AW.seqK fun K13 hK13 => ?_
  refine AW.condS rfl hs1 (fun hc2 hs1 => ?_) (fun hc2 hs1 => ?_)
  · refine AW.skip ?_
    conv => whnf
    refine hK13 _ _ ?_
    refine AW.seqK fun K14 hK14 => ?_
    refine AW.block ?_
    refine AW.seqK fun K15 hK15 => ?_
    refine AW.region τ_ok mixedO 1 ?_
    conv => whnf
    obtain ⟨x3, hx3, hs1⟩ := ob hs1
    refine idx_of (l := p0.carriers) (f := encCarrier) (cs := [.str ((x3).name), .slice (List.map encS ((x3).elems)) .shared]) hx3 (rfl) rfl ?_
    conv => whnf
    refine hK15 _ _ ?_
    refine AW.region τ_ok mixedO 3 ?_
    conv => whnf
    refine ⟨List.map encS ([x3.name]), rfl, ?_⟩
    conv => whnf
    obtain ⟨x4, hx4, hs1⟩ := ob hs1
    refine app_tip (l := s1.1) (ys := [x3.name]) (f := encS) hx4 ok_S rfl rfl rfl ?_
    conv => whnf
    obtain ⟨x5, hx5, hs1⟩ := ob hs1
    refine app_tip (l := x4) (ys := x3.elems) (f := encS) hx5 ok_S rfl rfl rfl ?_
    conv => whnf
    refine ⟨rfl, ?_⟩
    conv => whnf
    refine hK14 _ _ ?_
    refine AW.know 11 0 fun hv3 => ?_
    refine AW.know 9 0 fun hv4 => ?_
    refine AW.region τ_ok mixedO 0 ?_
    conv => whnf
    refine ⟨(s1.2 + 1), by have := wf64 hv3; have := vfl hv4; have h8 := of_decide_eq_true hc2; exact w64_id (by omega) (by omega), ?_⟩
    conv => whnf
    exact hKL1 _ _ _ hs1 (Le.of [some 0, some 5] (Weak.mk' rfl (.cons (.unk _) (.cons (.same rfl) (.cons (.unk _) (.cons (.tipS (renl_S _ _) rfl) (.u4 (.cons (.unk _) (.cons (.share (renl_Carrier _ _)) (.cons (.same rfl) (.cons (.same rfl) (.u16 (.u8 (.u2 .nil)))))))))))) (.old (.box' (.cons (.share (renl_Carrier _ _)) (.cons (.share (renl_Decl _ _)) .nil))) (.old (.tip _) .nil))))
  · refine AW.exit ?_
    conv => whnf
    exact hR1 _ (Option.some.inj hs1).symm _ _ (Le.of [some 0, some 1] (Weak.mk' rfl (.cons (.unk _) (.cons (.same rfl) (.cons (.unk _) (.cons (.tipS (renl_S _ _) rfl) (.u32 (.u2 .nil)))))) (.old (.box' (.cons (.share (renl_Carrier _ _)) (.cons (.share (renl_Decl _ _)) .nil))) (.old (.tip _) .nil))))
end Abs
end Go.Proofs.YtiiaccpcoclklaaGreat
namespace Go.Proofs.YtiiaccpcoclklaaGreat
namespace Abs
open Go Go.Proofs
def typing_distinct_L0 (n : Nat) (p0 : List Str) : Nat → (Int × (List (Str × Bool))) → Option (LR Unit Bool)
  | 0, _ => none
  | k + 1, s1 => (cond (decide (s1.1 < (p0.length : Int))) ((idx p0 s1.1).bind fun (x1 : Str) => (((mel (mfind s1.2 x1) (some false) (fun (x3 : Bool) => some x3)) : Option Bool).bind fun (s3 : Bool) => (cond s3 (some (.rt false)) ((mput s1.2 x1 true).bind fun (x2 : List (Str × Bool)) => typing_distinct_L0 n p0 k ((s1.1 + 1), x2))))) (some (.nx ())))
def typing_distinct (n : Nat) (p0 : List Str) : Option Bool := ((typing_distinct_L0 n p0 n (0, ([] : List (Str × Bool)))).bind (LR.el (fun (s2 : Unit) => some true) (fun r => some r)))
set_option maxRecDepth 100000 in
set_option maxHeartbeats 40000000 in
theorem typing_distinct_ok (n : Nat) (p0 : List Str) (r : Bool) (h : typing_distinct n p0 = some r) : ACalls Tryz.prog 118 [.slice (List.map encS p0) .shared] [] (.bool r) [] := by
  unfold typing_distinct at h
  refine acalls_start true Tryz.func118 rfl (by rw [Tryz.ntmps118]; exact Nat.le_of_ble_eq_true rfl) fun Q hQ t ht => ?_
  conv at ht => whnf
  subst ht
  refine AW.seqK fun K1 hK1 => ?_
  refine AW.region τ_ok mixedO 0 ?_
  conv => whnf
  refine hK1 _ _ ?_
  refine AW.seqK fun K2 hK2 => ?_
  refine AW.region τ_ok mixedO 1 ?_
  conv => whnf
  refine hK2 _ _ ?_
  refine AW.seqK fun K3 hK3 => ?_
  refine AW.seqK fun K4 hK4 => ?_
  refine AW.region τ_ok mixedO 0 ?_
  conv => whnf
  refine len_of (l := p0) (f := encS) ?_
  conv => whnf
  refine hK4 _ _ ?_
  refine AW.block ?_
  obtain ⟨o1, ho1, h⟩ := ob h
  have hR1 : ∀ s2 : Unit, o1 = .nx s2 → ∀ t9 h9, Le 0 t9 h9 (u16 (u2 (.unk :: []))) [] → K3 t9 h9 := by
    intro s2 ho
    subst ho
    dsimp only [LR.el] at h
    intro t9 h9 hw
    refine hK3 _ _ (AW.le hw ?_)
    refine AW.seqK fun K5 hK5 => ?_
    refine AW.region τ_ok mixedO 0 ?_
    conv => whnf
    refine hK5 _ _ ?_
    refine AW.ret ?_
    conv => whnf
    have e9 := Option.some.inj h
    subst e9
    refine hQ _ _ _ (retPure τ_ok (fun g => rfl) ?_)
    conv => whnf
  refine AW.loopS (typing_distinct_L0 n p0) (fun (s1 : Int × (List (Str × Bool))) => (u2 (.unk :: (.mapr 0 :: (u2 (.unk :: (.slice (List.map encS p0) .shared :: (.int .i64 (p0.length : Int) :: (.int .i64 s1.1 :: (u8 (.unk :: []))))))))))) (fun (s1 : Int × (List (Str × Bool))) => [.mp (List.map (fun p => (p.1, (fun (x : Bool) => .bool x) p.2)) s1.2)]) ho1 (fun _ => rfl) (Le.of [some 0] (Weak.mk' rfl (.u2 (.cons (.unk _) (.cons (.same rfl) (.u2 (.cons (.unk _) (.cons (.share (renl_S _ _)) (.cons (.same rfl) (.cons (.same rfl) (.u8 (.cons (.unk _) .nil)))))))))) (.old (.same rfl (congrArg AObj.mp (renm (f := (fun (x : Bool) => .bool x)) (fun g x => rfl) _ _))) .nil))) ?_
  intro n1 s1 hs1 KL1 hKL1
  unfold typing_distinct_L0 at hs1
  refine AW.seqK fun K6 hK6 => ?_
  refine AW.region τ_ok mixedO 0 ?_
  conv => whnf
  refine hK6 _ _ ?_
  refine AW.seqK fun K7 hK7 => ?_
  refine AW.condS rfl hs1 (fun hc1 hs1 => ?_) (fun hc1 hs1 => ?_)
  · refine AW.skip ?_
    conv => whnf
    refine hK7 _ _ ?_
    refine AW.seqK fun K8 hK8 => ?_
    refine AW.block ?_
    refine AW.seqK fun K9 hK9 => ?_
    refine AW.region τ_ok mixedO 0 ?_
    conv => whnf
    obtain ⟨x1, hx1, hs1⟩ := ob hs1
    refine idx_of (l := p0) (f := encS) (cs := [.str (x1)]) hx1 (rfl) rfl ?_
    conv => whnf
    refine hK9 _ _ ?_
    refine AW.seqK fun K10 hK10 => ?_
    refine AW.seqK fun K11 hK11 => ?_
    obtain ⟨s3, hj1, hs1⟩ := ob hs1
    have hR2 : ∀ t9 h9, Le 0 t9 h9 (u2 (.unk :: (.mapr 0 :: (.unk :: (.str x1 :: (.unk :: (.slice (List.map encS p0) .shared :: (.int .i64 (p0.length : Int) :: (.int .i64 s1.1 :: (u4 (.unk :: (.bool s3 :: (u2 (.unk :: [])))))))))))))) [.mp (List.map (fun p => (p.1, (fun (x : Bool) => .bool x) p.2)) s1.2)] → K11 t9 h9 := by
      intro t9 h9 hw
      refine hK11 _ _ (AW.le hw ?_)
      clear hw
      refine AW.condS rfl hs1 (fun hc2 hs1 => ?_) (fun hc2 hs1 => ?_)
      · refine AW.seqK fun K12 hK12 => ?_
        refine AW.region τ_ok mixedO 0 ?_
        conv => whnf
        refine hK12 _ _ ?_
        refine AW.ret ?_
        conv => whnf
        have e9 := Option.some.inj hs1
        subst e9
        dsimp only [LR.el] at h
        have e9 := Option.some.inj h
        subst e9
        refine hQ _ _ _ (retPure τ_ok (fun g => rfl) ?_)
        conv => whnf
      · refine AW.skip ?_
        conv => whnf
        refine hK10 _ _ ?_
        refine AW.region τ_ok mixedO 0 ?_
        conv => whnf
        obtain ⟨x2, hx2, hs1⟩ := ob hs1
        refine put_of (m := s1.2) (f := (fun (x : Bool) => .bool x)) hx2 rfl ?_
        conv => whnf
        refine hK8 _ _ ?_
        refine AW.know 9 0 fun hv1 => ?_
        refine AW.know 7 0 fun hv2 => ?_
        refine AW.region τ_ok mixedO 0 ?_
        conv => whnf
        refine ⟨(s1.1 + 1), by have := wf64 hv1; have := vfl hv2; have h8 := of_decide_eq_true hc1; exact w64_id (by omega) (by omega), ?_⟩
        conv => whnf
        exact hKL1 _ _ _ hs1 (Le.of [some 0] (Weak.mk' rfl (.u2 (.cons (.unk _) (.cons (.same rfl) (.u2 (.cons (.unk _) (.cons (.share (renl_S _ _)) (.cons (.same rfl) (.cons (.same rfl) (.u8 (.cons (.unk _) .nil)))))))))) (.old (.same rfl (congrArg AObj.mp (renm (f := (fun (x : Bool) => .bool x)) (fun g x => rfl) _ _))) .nil)))
    refine AW.region τ_ok mixedO 0 ?_
    conv => whnf
    refine find_of (m := s1.2) (f := (fun (x : Bool) => .bool x)) hj1 (fun x3 hx3 hj1 => ?_) (fun hx3 hj1 => ?_)
    · conv => whnf
      cases hj1
      exact hR2 _ _ (Le.of [some 0] (Weak.mk' rfl (.u2 (.cons (.unk _) (.cons (.same rfl) (.cons (.unk _) (.cons (.same rfl) (.cons (.unk _) (.cons (.share (renl_S _ _)) (.cons (.same rfl) (.cons (.same rfl) (.u4 (.cons (.unk _) (.cons (.same rfl) (.u2 (.cons (.unk _) .nil)))))))))))))) (.old (.same rfl (congrArg AObj.mp (renm (f := (fun (x : Bool) => .bool x)) (fun g x => rfl) _ _))) .nil)))
    · conv => whnf
      cases hj1
      exact hR2 _ _ (Le.of [some 0] (Weak.mk' rfl (.u2 (.cons (.unk _) (.cons (.same rfl) (.cons (.unk _) (.cons (.same rfl) (.cons (.unk _) (.cons (.share (renl_S _ _)) (.cons (.same rfl) (.cons (.same rfl) (.u4 (.cons (.unk _) (.cons (.same rfl) (.u2 (.cons (.unk _) .nil)))))))))))))) (.old (.same rfl (congrArg AObj.mp (renm (f := (fun (x : Bool) => .bool x)) (fun g x => rfl) _ _))) .nil)))
  · refine AW.exit ?_
    conv => whnf
    exact hR1 _ (Option.some.inj hs1).symm _ _ (Le.of [] (Weak.mk' rfl (.u16 (.u2 (.cons (.unk _) .nil))) .nil))
def typing_ValidEnv_L2 (n : Nat) (x7 : Carrier) : Nat → Int → Option (LR Unit Bool)
  | 0, _ => none
  | k + 1, s8 => (cond (decide (s8 < (x7.elems.length : Int))) ((idx x7.elems s8).bind fun (x8 : Str) => ((term_Identifier n x8).bind fun (x9 : Bool) => (cond (!x9) (some (.rt false)) (typing_ValidEnv_L2 n x7 k (s8 + 1))))) (some (.nx ())))
def typing_ValidEnv_L1 (n : Nat) (p0 : Env) : Nat → Int → Option (LR Unit Bool)
  | 0, _ => none
  | k + 1, s2 => (cond (decide (s2 < (p0.carriers.length : Int))) ((idx p0.carriers s2).bind fun (x7 : Carrier) => ((((term_Identifier n x7.name).bind fun (x10 : Bool) => (cond (!x10) (some true) (some (decide (8 < (x7.elems.length : Int)))))) : Option Bool).bind fun (s7 : Bool) => (cond s7 (some (.rt false)) ((typing_ValidEnv_L2 n x7 n 0).bind (LR.el (fun (s9 : Unit) => typing_ValidEnv_L1 n p0 k (s2 + 1)) (fun r => some (.rt r))))))) (some (.nx ())))
def typing_ValidEnv_L0 (n : Nat) (p0 : Env) : Nat → Int → Option (LR Unit Bool)
  | 0, _ => none
  | k + 1, s4 => (cond (decide (s4 < (p0.names.length : Int))) ((idx p0.names s4).bind fun (x3 : Decl) => ((((typing_nameable n x3.name).bind fun (x4 : Bool) => (cond (!x4) (some true) ((typing_declarable n x3.ty).bind fun (x5 : Bool) => (cond (!x5) (some true) ((typing_mentions n p0 x3.ty).bind fun (x6 : Bool) => some (!x6)))))) : Option Bool).bind fun (s6 : Bool) => (cond s6 (some (.rt false)) (typing_ValidEnv_L0 n p0 k (s4 + 1))))) (some (.nx ())))
def typing_ValidEnv (n : Nat) (p0 : Env) : Option Bool := (((cond (decide (8 < (p0.carriers.length : Int))) (some true) (some (decide (64 < (p0.names.length : Int))))) : Option Bool).bind fun (s1 : Bool) => (cond s1 (some false) ((typing_ValidEnv_L1 n p0 n 0).bind (LR.el (fun (s3 : Unit) => ((typing_ValidEnv_L0 n p0 n 0).bind (LR.el (fun (s5 : Unit) => ((typing_declared n p0).bind fun (x1 : List Str) => ((typing_distinct n x1).bind fun (x2 : Bool) => some x2))) (fun r => some r)))) (fun r => some r)))))
set_option maxRecDepth 100000 in
set_option maxHeartbeats 40000000 in
theorem typing_ValidEnv_ok (n : Nat) (p0 : Env) (r : Bool) (h : typing_ValidEnv n p0 = some r) : ACalls Tryz.prog 55 [.agg [.slice (List.map encCarrier p0.carriers) .shared, .slice (List.map encDecl p0.names) .shared]] [] (.bool r) [] := by
  unfold typing_ValidEnv at h
  refine acalls_start true Tryz.func55 rfl (by rw [Tryz.ntmps55]; exact Nat.le_of_ble_eq_true rfl) fun Q hQ t ht => ?_
  conv at ht => whnf
  subst ht
  refine AW.seqK fun K1 hK1 => ?_
  refine AW.region τ_ok mixedO 1 ?_
  conv => whnf
  refine hK1 _ _ ?_
  refine AW.seqK fun K2 hK2 => ?_
  refine AW.seqK fun K3 hK3 => ?_
  obtain ⟨s1, hj1, h⟩ := ob h
  have hR1 : ∀ t9 h9, Le 0 t9 h9 (.unk :: (.ptr 0 0 :: (u16 (.bool s1 :: (u32 (u16 (u8 (.unk :: [])))))))) [.box [.slice (List.map encCarrier p0.carriers) .shared, .slice (List.map encDecl p0.names) .shared]] → K3 t9 h9 := by
    intro t9 h9 hw
    refine hK3 _ _ (AW.le hw ?_)
    clear hw
    refine AW.condS rfl h (fun hc1 h => ?_) (fun hc1 h => ?_)
    · refine AW.seqK fun K4 hK4 => ?_
      refine AW.region τ_ok mixedO 0 ?_
      conv => whnf
      refine hK4 _ _ ?_
      refine AW.ret ?_
      conv => whnf
      have e9 := Option.some.inj h
      subst e9
      refine hQ _ _ _ (retPure τ_ok (fun g => rfl) ?_)
      conv => whnf
    · refine AW.skip ?_
      conv => whnf
      refine hK2 _ _ ?_
      refine AW.seqK fun K5 hK5 => ?_
      refine AW.seqK fun K6 hK6 => ?_
      refine AW.region τ_ok mixedO 0 ?_
      conv => whnf
      refine len_of (l := p0.carriers) (f := encCarrier) ?_
      conv => whnf
      refine hK6 _ _ ?_
      refine AW.block ?_
      obtain ⟨o1, ho1, h⟩ := ob h
      have hR2 : ∀ s3 : Unit, o1 = .nx s3 → ∀ t9 h9, Le 0 t9 h9 (.unk :: (.ptr 0 0 :: (u64 (u8 (u2 []))))) [.box [.slice (List.map encCarrier p0.carriers) .shared, .slice (List.map encDecl p0.names) .shared]] → K5 t9 h9 := by
        intro s3 ho
        subst ho
        dsimp only [LR.el] at h
        intro t9 h9 hw
        refine hK5 _ _ (AW.le hw ?_)
        refine AW.seqK fun K7 hK7 => ?_
        refine AW.seqK fun K8 hK8 => ?_
        refine AW.region τ_ok mixedO 0 ?_
        conv => whnf
        refine len_of (l := p0.names) (f := encDecl) ?_
        conv => whnf
        refine hK8 _ _ ?_
        refine AW.block ?_
        obtain ⟨o2, ho2, h⟩ := ob h
        have hR3 : ∀ s5 : Unit, o2 = .nx s5 → ∀ t9 h9, Le 0 t9 h9 (.unk :: (.ptr 0 0 :: (u64 (u8 (u2 []))))) [.box [.slice (List.map encCarrier p0.carriers) .shared, .slice (List.map encDecl p0.names) .shared]] → K7 t9 h9 := by
          intro s5 ho
          subst ho
          dsimp only [LR.el] at h
          intro t9 h9 hw
          refine hK7 _ _ (AW.le hw ?_)
          refine AW.seqK fun K9 hK9 => ?_
          refine AW.region τ_ok mixedO 1 ?_
          conv => whnf
          obtain ⟨x1, hx1, h⟩ := ob h
          refine call_gen [] [1] [.agg [.slice (List.map encCarrier p0.carriers) .shared, .slice (List.map encDecl p0.names) .shared]] [.agg [.slice (List.map encCarrier p0.carriers) .shared, .slice (List.map encDecl p0.names) .shared]] (typing_declared_ok _ _ _ hx1) okF_114 rfl .nil (by simp only [ren, renL, renLL, renT, renL_app, renl_I, renl_S, renl_U8, renl_Ty, renl_Tm, renl_Carrier, renl_Decl]; try rfl) (.cons (.same _) .nil) (rn := .slice (List.map encS x1) (.tip 1 1)) (by simp only [ren, renL, renLL, renT, renL_app, renl_I, renl_S, renl_U8, renl_Ty, renl_Tm, renl_Carrier, renl_Decl]; try rfl) (Hn := [.tip (List.length x1 * 1)]) ((rcons (rfl) rfl)) ?_
          conv => whnf
          obtain ⟨x2, hx2, h⟩ := ob h
          refine call_pur (typing_distinct_ok _ _ _ hx2) okF_118 (.cons (.share _ _) .nil) (fun g => by simp only [ren, renL, renLL, renT, renL_app, renl_I, renl_S, renl_U8, renl_Ty, renl_Tm, renl_Carrier, renl_Decl]) (fun g => rfl) ?_
          conv => whnf
          refine hK9 _ _ ?_
          refine AW.ret ?_
          conv => whnf
          have e9 := Option.some.inj h
          subst e9
          refine hQ _ _ _ (retPure τ_ok (fun g => rfl) ?_)
          conv => whnf
        refine AW.loopS (typing_ValidEnv_L0 n p0) (fun (s4 : Int) => (.unk :: (.ptr 0 0 :: (u32 (u8 (u4 (u2 (.unk :: (.slice (List.map encDecl p0.names) .shared :: (.int .i64 (p0.names.length : Int) :: (.int .i64 s4 :: (u16 (u8 []))))))))))))) (fun (s4 : Int) => [.box [.slice (List.map encCarrier p0.carriers) .shared, .slice (List.map encDecl p0.names) .shared]]) ho2 (fun _ => rfl) (Le.of [some 0] (Weak.mk' rfl (.cons (.unk _) (.cons (.same rfl) (.u32 (.u8 (.u4 (.u2 (.cons (.unk _) (.cons (.share (renl_Decl _ _)) (.cons (.same rfl) (.cons (.same rfl) (.u16 (.u8 .nil)))))))))))) (.old (.box' (.cons (.share (renl_Carrier _ _)) (.cons (.share (renl_Decl _ _)) .nil))) .nil))) ?_
        intro n2 s4 hs2 KL2 hKL2
        unfold typing_ValidEnv_L0 at hs2
        refine AW.seqK fun K10 hK10 => ?_
        refine AW.region τ_ok mixedO 0 ?_
        conv => whnf
        refine hK10 _ _ ?_
        refine AW.seqK fun K11 hK11 => ?_
        refine AW.condS rfl hs2 (fun hc2 hs2 => ?_) (fun hc2 hs2 => ?_)
        · refine AW.skip ?_
          conv => whnf
          refine hK11 _ _ ?_
          refine AW.seqK fun K12 hK12 => ?_
          refine AW.block ?_
          refine AW.seqK fun K13 hK13 => ?_
          refine AW.region τ_ok mixedO 1 ?_
          conv => whnf
          obtain ⟨x3, hx3, hs2⟩ := ob hs2
          refine idx_of (l := p0.names) (f := encDecl) (cs := [.str ((x3).name), .int .i64 (((x3).ty).kind), .str (((x3).ty).name), .slice (List.map encTy (((x3).ty).kids)) .shared]) hx3 (rfl) rfl ?_
          conv => whnf
          refine hK13 _ _ ?_
          refine AW.seqK fun K14 hK14 => ?_
          obtain ⟨s6, hj2, hs2⟩ := ob hs2
          have hR4 : ∀ t9 h9, Le 0 t9 h9 (.unk :: (.ptr 0 0 :: (u32 (u8 (u4 (u2 (.unk :: (.slice (List.map encDecl p0.names) .shared :: (.int .i64 (p0.names.length : Int) :: (.int .i64 s4 :: (u16 (u2 (.unk :: (.bool s6 :: (u4 []))))))))))))))) [.box [.slice (List.map encCarrier p0.carriers) .shared, .slice (List.map encDecl p0.names) .shared]] → K14 t9 h9 := by
            intro t9 h9 hw
            refine hK14 _ _ (AW.le hw ?_)
            clear hw
            refine AW.condS rfl hs2 (fun hc3 hs2 => ?_) (fun hc3 hs2 => ?_)
            · refine AW.seqK fun K15 hK15 => ?_
              refine AW.region τ_ok mixedO 0 ?_
              conv => whnf
              refine hK15 _ _ ?_
              refine AW.ret ?_
              conv => whnf
              have e9 := Option.some.inj hs2
              subst e9
              dsimp only [LR.el] at h
              have e9 := Option.some.inj h
              subst e9
              refine hQ _ _ _ (retPure τ_ok (fun g => rfl) ?_)
              conv => whnf
            · refine AW.skip ?_
              conv => whnf
              refine hK12 _ _ ?_
              refine AW.know 51 0 fun hv1 => ?_
              refine AW.know 49 0 fun hv2 => ?_
              refine AW.region τ_ok mixedO 0 ?_
              conv => whnf
              refine ⟨(s4 + 1), by have := wf64 hv1; have := vfl hv2; have h8 := of_decide_eq_true hc2; exact w64_id (by omega) (by omega), ?_⟩
              conv => whnf
              exact hKL2 _ _ _ hs2 (Le.of [some 0] (Weak.mk' rfl (.cons (.unk _) (.cons (.same rfl) (.u32 (.u8 (.u4 (.u2 (.cons (.unk _) (.cons (.share (renl_Decl _ _)) (.cons (.same rfl) (.cons (.same rfl) (.u16 (.u8 .nil)))))))))))) (.old (.box' (.cons (.share (renl_Carrier _ _)) (.cons (.share (renl_Decl _ _)) .nil))) .nil)))
          refine AW.region τ_ok mixedO 0 ?_
          conv => whnf
          obtain ⟨x4, hx4, hj2⟩ := ob hj2
          refine call_pur (typing_nameable_ok _ _ _ hx4) okF_112 (.cons (.same _) .nil) (fun g => rfl) (fun g => rfl) ?_
          conv => whnf
          refine onB_cond hj2 (fun hc4 hj2 => ?_) (fun hc4 hj2 => ?_)
          · conv => whnf
            cases hj2
            exact hR4 _ _ (Le.of [some 0] (Weak.mk' rfl (.cons (.unk _) (.cons (.same rfl) (.u32 (.u8 (.u4 (.u2 (.cons (.unk _) (.cons (.share (renl_Decl _ _)) (.cons (.same rfl) (.cons (.same rfl) (.u16 (.u2 (.cons (.unk _) (.cons (.same rfl) (.u4 .nil))))))))))))))) (.old (.box' (.cons (.share (renl_Carrier _ _)) (.cons (.share (renl_Decl _ _)) .nil))) .nil)))
          · conv => whnf
            obtain ⟨x5, hx5, hj2⟩ := ob hj2
            refine call_pur (typing_declarable_ok _ _ _ hx5) okF_95 (.cons (.same _) .nil) (fun g => by simp only [ren, renL, renLL, renT, renL_app, renl_I, renl_S, renl_U8, renl_Ty, renl_Tm, renl_Carrier, renl_Decl]) (fun g => rfl) ?_
            conv => whnf
            refine onB_cond hj2 (fun hc5 hj2 => ?_) (fun hc5 hj2 => ?_)
            · conv => whnf
              cases hj2
              exact hR4 _ _ (Le.of [some 0] (Weak.mk' rfl (.cons (.unk _) (.cons (.same rfl) (.u32 (.u8 (.u4 (.u2 (.cons (.unk _) (.cons (.share (renl_Decl _ _)) (.cons (.same rfl) (.cons (.same rfl) (.u16 (.u2 (.cons (.unk _) (.cons (.same rfl) (.u4 .nil))))))))))))))) (.old (.box' (.cons (.share (renl_Carrier _ _)) (.cons (.share (renl_Decl _ _)) .nil))) .nil)))
            · conv => whnf
              obtain ⟨x6, hx6, hj2⟩ := ob hj2
              refine call_pur (typing_mentions_ok _ _ _ _ hx6) okF_97 (.cons (.same _) (.cons (.same _) .nil)) (fun g => by simp only [ren, renL, renLL, renT, renL_app, renl_I, renl_S, renl_U8, renl_Ty, renl_Tm, renl_Carrier, renl_Decl]) (fun g => rfl) ?_
              conv => whnf
              cases hj2
              exact hR4 _ _ (Le.of [some 0] (Weak.mk' rfl (.cons (.unk _) (.cons (.same rfl) (.u32 (.u8 (.u4 (.u2 (.cons (.unk _) (.cons (.share (renl_Decl _ _)) (.cons (.same rfl) (.cons (.same rfl) (.u16 (.u2 (.cons (.unk _) (.cons (.same rfl) (.u4 .nil))))))))))))))) (.old (.box' (.cons (.share (renl_Carrier _ _)) (.cons (.share (renl_Decl _ _)) .nil))) .nil)))
        · refine AW.exit ?_
          conv => whnf
          exact hR3 _ (Option.some.inj hs2).symm _ _ (Le.of [some 0] (Weak.mk' rfl (.cons (.unk _) (.cons (.same rfl) (.u64 (.u8 (.u2 .nil))))) (.old (.box' (.cons (.share (renl_Carrier _ _)) (.cons (.share (renl_Decl _ _)) .nil))) .nil)))
      refine AW.loopS (typing_ValidEnv_L1 n p0) (fun (s2 : Int) => (.unk :: (.ptr 0 0 :: (u16 (u2 (.slice (List.map encCarrier p0.carriers) .shared :: (.int .i64 (p0.carriers.length : Int) :: (.int .i64 s2 :: (u32 (u16 (u4 (.unk :: [])))))))))))) (fun (s2 : Int) => [.box [.slice (List.map encCarrier p0.carriers) .shared, .slice (List.map encDecl p0.names) .shared]]) ho1 (fun _ => rfl) (Le.of [some 0] (Weak.mk' rfl (.cons (.unk _) (.cons (.same rfl) (.u16 (.u2 (.cons (.share (renl_Carrier _ _)) (.cons (.same rfl) (.cons (.same rfl) (.u32 (.u16 (.u4 (.cons (.unk _) .nil))))))))))) (.old (.box' (.cons (.share (renl_Carrier _ _)) (.cons (.share (renl_Decl _ _)) .nil))) .nil))) ?_
      intro n1 s2 hs1 KL1 hKL1
      unfold typing_ValidEnv_L1 at hs1
      refine AW.seqK fun K16 hK16 => ?_
      refine AW.region τ_ok mixedO 0 ?_
      conv => whnf
      refine hK16 _ _ ?_
      refine AW.seqK fun K17 hK17 => ?_
      refine AW.condS rfl hs1 (fun hc6 hs1 => ?_) (fun hc6 hs1 => ?_)
      · refine AW.skip ?_
        conv => whnf
        refine hK17 _ _ ?_
        refine AW.seqK fun K18 hK18 => ?_
        refine AW.block ?_
        refine AW.seqK fun K19 hK19 => ?_
        refine AW.region τ_ok mixedO 1 ?_
        conv => whnf
        obtain ⟨x7, hx7, hs1⟩ := ob hs1
        refine idx_of (l := p0.carriers) (f := encCarrier) (cs := [.str ((x7).name), .slice (List.map encS ((x7).elems)) .shared]) hx7 (rfl) rfl ?_
        conv => whnf
        refine hK19 _ _ ?_
        refine AW.seqK fun K20 hK20 => ?_
        refine AW.seqK fun K21 hK21 => ?_
        obtain ⟨s7, hj3, hs1⟩ := ob hs1
        have hR5 : ∀ t9 h9, Le 0 t9 h9 (.unk :: (.ptr 0 0 :: (u2 (.ptr 1 0 :: (u8 (u4 (u2 (.unk :: (.slice (List.map encCarrier p0.carriers) .shared :: (.int .i64 (p0.carriers.length : Int) :: (.int .i64 s2 :: (u8 (u4 (.bool s7 :: (u32 (u8 [])))))))))))))))) [.box [.slice (List.map encCarrier p0.carriers) .shared, .slice (List.map encDecl p0.names) .shared], .box [.str x7.name, .slice (List.map encS x7.elems) .shared]] → K21 t9 h9 := by
          intro t9 h9 hw
          refine hK21 _ _ (AW.le hw ?_)
          clear hw
          refine AW.condS rfl hs1 (fun hc7 hs1 => ?_) (fun hc7 hs1 => ?_)
          · refine AW.seqK fun K22 hK22 => ?_
            refine AW.region τ_ok mixedO 0 ?_
            conv => whnf
            refine hK22 _ _ ?_
            refine AW.ret ?_
            conv => whnf
            have e9 := Option.some.inj hs1
            subst e9
            dsimp only [LR.el] at h
            have e9 := Option.some.inj h
            subst e9
            refine hQ _ _ _ (retPure τ_ok (fun g => rfl) ?_)
            conv => whnf
          · refine AW.skip ?_
            conv => whnf
            refine hK20 _ _ ?_
            refine AW.seqK fun K23 hK23 => ?_
            refine AW.region τ_ok mixedO 0 ?_
            conv => whnf
            refine len_of (l := x7.elems) (f := encS) ?_
            conv => whnf
            refine hK23 _ _ ?_
            refine AW.block ?_
            obtain ⟨o3, ho3, hs1⟩ := ob hs1
            have hR6 : ∀ s9 : Unit, o3 = .nx s9 → ∀ t9 h9, Le 0 t9 h9 (.unk :: (.ptr 0 0 :: (u16 (u2 (.slice (List.map encCarrier p0.carriers) .shared :: (.int .i64 (p0.carriers.length : Int) :: (.int .i64 s2 :: (u32 (u16 (u4 (.unk :: []))))))))))) [.box [.slice (List.map encCarrier p0.carriers) .shared, .slice (List.map encDecl p0.names) .shared]] → K18 t9 h9 := by
              intro s9 ho
              subst ho
              dsimp only [LR.el] at hs1
              intro t9 h9 hw
              refine hK18 _ _ (AW.le hw ?_)
              refine AW.know 22 0 fun hv3 => ?_
              refine AW.know 20 0 fun hv4 => ?_
              refine AW.region τ_ok mixedO 0 ?_
              conv => whnf
              refine ⟨(s2 + 1), by have := wf64 hv3; have := vfl hv4; have h8 := of_decide_eq_true hc6; exact w64_id (by omega) (by omega), ?_⟩
              conv => whnf
              exact hKL1 _ _ _ hs1 (Le.of [some 0] (Weak.mk' rfl (.cons (.unk _) (.cons (.same rfl) (.u16 (.u2 (.cons (.share (renl_Carrier _ _)) (.cons (.same rfl) (.cons (.same rfl) (.u32 (.u16 (.u4 (.cons (.unk _) .nil))))))))))) (.old (.box' (.cons (.share (renl_Carrier _ _)) (.cons (.share (renl_Decl _ _)) .nil))) .nil)))
            refine AW.loopS (typing_ValidEnv_L2 n x7) (fun (s8 : Int) => (.unk :: (.ptr 0 0 :: (u16 (u2 (.slice (List.map encCarrier p0.carriers) .shared :: (.int .i64 (p0.carriers.length : Int) :: (.int .i64 s2 :: (u8 (u4 (u2 (.slice (List.map encS x7.elems) .shared :: (.int .i64 (x7.elems.length : Int) :: (.int .i64 s8 :: (u32 (u4 [])))))))))))))))) (fun (s8 : Int) => [.box [.slice (List.map encCarrier p0.carriers) .shared, .slice (List.map encDecl p0.names) .shared]]) ho3 (fun _ => rfl) (Le.of [some 0] (Weak.mk' rfl (.cons (.unk _) (.cons (.same rfl) (.u16 (.u2 (.cons (.share (renl_Carrier _ _)) (.cons (.same rfl) (.cons (.same rfl) (.u8 (.u4 (.u2 (.cons (.share (renl_S _ _)) (.cons (.same rfl) (.cons (.same rfl) (.u32 (.u4 .nil))))))))))))))) (.old (.box' (.cons (.share (renl_Carrier _ _)) (.cons (.share (renl_Decl _ _)) .nil))) .nil))) ?_
            intro n3 s8 hs3 KL3 hKL3
            unfold typing_ValidEnv_L2 at hs3
            refine AW.seqK fun K24 hK24 => ?_
            refine AW.region τ_ok mixedO 0 ?_
            conv => whnf
            refine hK24 _ _ ?_
            refine AW.seqK fun K25 hK25 => ?_
            refine AW.condS rfl hs3 (fun hc8 hs3 => ?_) (fun hc8 hs3 => ?_)
            · refine AW.skip ?_
              conv => whnf
              refine hK25 _ _ ?_
              refine AW.seqK fun K26 hK26 => ?_
              refine AW.block ?_
              refine AW.seqK fun K27 hK27 => ?_
              refine AW.region τ_ok mixedO 0 ?_
              conv => whnf
              obtain ⟨x8, hx8, hs3⟩ := ob hs3
              refine idx_of (l := x7.elems) (f := encS) (cs := [.str (x8)]) hx8 (rfl) rfl ?_
              conv => whnf
              refine hK27 _ _ ?_
              refine AW.seqK fun K28 hK28 => ?_
              refine AW.region τ_ok mixedO 0 ?_
              conv => whnf
              obtain ⟨x9, hx9, hs3⟩ := ob hs3
              refine call_pur (term_Identifier_ok _ _ _ hx9) okF_117 (.cons (.same _) .nil) (fun g => rfl) (fun g => rfl) ?_
              conv => whnf
              refine hK28 _ _ ?_
              refine AW.condS rfl hs3 (fun hc9 hs3 => ?_) (fun hc9 hs3 => ?_)
              · refine AW.seqK fun K29 hK29 => ?_
                refine AW.region τ_ok mixedO 0 ?_
                conv => whnf
                refine hK29 _ _ ?_
                refine AW.ret ?_
                conv => whnf
                have e9 := Option.some.inj hs3
                subst e9
                dsimp only [LR.el] at hs1
                have e9 := Option.some.inj hs1
                subst e9
                dsimp only [LR.el] at h
                have e9 := Option.some.inj h
                subst e9
                refine hQ _ _ _ (retPure τ_ok (fun g => rfl) ?_)
                conv => whnf
              · refine AW.skip ?_
                conv => whnf
                refine hK26 _ _ ?_
                refine AW.know 39 0 fun hv5 => ?_
                refine AW.know 37 0 fun hv6 => ?_
                refine AW.region τ_ok mixedO 0 ?_
                conv => whnf
                refine ⟨(s8 + 1), by have := wf64 hv5; have := vfl hv6; have h8 := of_decide_eq_true hc8; exact w64_id (by omega) (by omega), ?_⟩
                conv => whnf
                exact hKL3 _ _ _ hs3 (Le.of [some 0] (Weak.mk' rfl (.cons (.unk _) (.cons (.same rfl) (.u16 (.u2 (.cons (.share (renl_Carrier _ _)) (.cons (.same rfl) (.cons (.same rfl) (.u8 (.u4 (.u2 (.cons (.share (renl_S _ _)) (.cons (.same rfl) (.cons (.same rfl) (.u32 (.u4 .nil))))))))))))))) (.old (.box' (.cons (.share (renl_Carrier _ _)) (.cons (.share (renl_Decl _ _)) .nil))) .nil)))
            · refine AW.exit ?_
              conv => whnf
              exact hR6 _ (Option.some.inj hs3).symm _ _ (Le.of [some 0] (Weak.mk' rfl (.cons (.unk _) (.cons (.same rfl) (.u16 (.u2 (.cons (.share (renl_Carrier _ _)) (.cons (.same rfl) (.cons (.same rfl) (.u32 (.u16 (.u4 (.cons (.unk _) .nil))))))))))) (.old (.box' (.cons (.share (renl_Carrier _ _)) (.cons (.share (renl_Decl _ _)) .nil))) .nil)))
        refine AW.region τ_ok mixedO 0 ?_
        conv => whnf
        obtain ⟨x10, hx10, hj3⟩ := ob hj3
        refine call_pur (term_Identifier_ok _ _ _ hx10) okF_117 (.cons (.same _) .nil) (fun g => rfl) (fun g => rfl) ?_
        conv => whnf
        refine onB_cond hj3 (fun hc10 hj3 => ?_) (fun hc10 hj3 => ?_)
        · conv => whnf
          cases hj3
          exact hR5 _ _ (Le.of [some 0, some 1] (Weak.mk' rfl (.cons (.unk _) (.cons (.same rfl) (.u2 (.cons (.same rfl) (.u8 (.u4 (.u2 (.cons (.unk _) (.cons (.share (renl_Carrier _ _)) (.cons (.same rfl) (.cons (.same rfl) (.u8 (.u4 (.cons (.same rfl) (.u32 (.u8 .nil)))))))))))))))) (.old (.box' (.cons (.share (renl_Carrier _ _)) (.cons (.share (renl_Decl _ _)) .nil))) (.old (.box' (.cons (.same rfl) (.cons (.share (renl_S _ _)) .nil))) .nil))))
        · conv => whnf
          refine len_of (l := x7.elems) (f := encS) ?_
          conv => whnf
          cases hj3
          exact hR5 _ _ (Le.of [some 0, some 1] (Weak.mk' rfl (.cons (.unk _) (.cons (.same rfl) (.u2 (.cons (.same rfl) (.u8 (.u4 (.u2 (.cons (.unk _) (.cons (.share (renl_Carrier _ _)) (.cons (.same rfl) (.cons (.same rfl) (.u8 (.u4 (.cons (.same rfl) (.u32 (.u8 .nil)))))))))))))))) (.old (.box' (.cons (.share (renl_Carrier _ _)) (.cons (.share (renl_Decl _ _)) .nil))) (.old (.box' (.cons (.same rfl) (.cons (.share (renl_S _ _)) .nil))) .nil))))
      · refine AW.exit ?_
        conv => whnf
        exact hR2 _ (Option.some.inj hs1).symm _ _ (Le.of [some 0] (Weak.mk' rfl (.cons (.unk _) (.cons (.same rfl) (.u64 (.u8 (.u2 .nil))))) (.old (.box' (.cons (.share (renl_Carrier _ _)) (.cons (.share (renl_Decl _ _)) .nil))) .nil)))
  refine AW.region τ_ok mixedO 0 ?_
  conv => whnf
  refine len_of (l := p0.carriers) (f := encCarrier) ?_
  conv => whnf
  refine onB_cond hj1 (fun hc11 hj1 => ?_) (fun hc11 hj1 => ?_)
  · conv => whnf
    cases hj1
    exact hR1 _ _ (Le.of [some 0] (Weak.mk' rfl (.cons (.unk _) (.cons (.same rfl) (.u16 (.cons (.same rfl) (.u32 (.u16 (.u8 (.cons (.unk _) .nil)))))))) (.old (.box' (.cons (.share (renl_Carrier _ _)) (.cons (.share (renl_Decl _ _)) .nil))) .nil)))
  · conv => whnf
    refine len_of (l := p0.names) (f := encDecl) ?_
    conv => whnf
    cases hj1
    exact hR1 _ _ (Le.of [some 0] (Weak.mk' rfl (.cons (.unk _) (.cons (.same rfl) (.u16 (.cons (.same rfl) (.u32 (.u16 (.u8 (.cons (.unk _) .nil)))))))) (.old (.box' (.cons (.share (renl_Carrier _ _)) (.cons (.share (renl_Decl _ _)) .nil))) .nil)))
def typing_setOf (n : Nat) (p0 : Ty) : Option Ty := some (Ty.mk 5 ([] : Str) ([p0]))
set_option maxRecDepth 100000 in
set_option maxHeartbeats 40000000 in
theorem typing_setOf_ok (n : Nat) (p0 : Ty) (r : Ty) (h : typing_setOf n p0 = some r) : ACalls Tryz.prog 138 [.agg [.int .i64 p0.kind, .str p0.name, .slice (List.map encTy p0.kids) .shared]] [] (.agg [.int .i64 r.kind, .str r.name, .slice (List.map encTy r.kids) .shared]) [] := by
  unfold typing_setOf at h
  refine acalls_start true Tryz.func138 rfl (by rw [Tryz.ntmps138]; exact Nat.le_of_ble_eq_true rfl) fun Q hQ t ht => ?_
  conv at ht => whnf
  subst ht
  refine AW.seqK fun K1 hK1 => ?_
  refine AW.region τ_ok mixedO 2 ?_
  conv => whnf
  refine hK1 _ _ ?_
  refine AW.seqK fun K2 hK2 => ?_
  refine AW.region τ_ok mixedO 1 ?_
  conv => whnf
  refine ⟨List.map encTy ([p0]), by simp only [List.map_cons, List.map_nil, encTy_eq]; rfl, ?_⟩
  conv => whnf
  refine hK2 _ _ ?_
  refine AW.ret ?_
  conv => whnf
  have e9 := Option.some.inj h
  subst e9
  refine hQ _ _ _ (retPure τ_ok (fun g => by simp only [ren, renL, renLL, renT, renL_app, renl_I, renl_S, renl_U8, renl_Ty, renl_Tm, renl_Carrier, renl_Decl]) ?_)
  conv => whnf
  try rfl
end Abs
end Go.Proofs.YtiiaccpcoclklaaGreat

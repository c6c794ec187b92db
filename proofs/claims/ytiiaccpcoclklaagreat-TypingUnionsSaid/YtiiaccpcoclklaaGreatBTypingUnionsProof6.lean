/-
  Plain functions and the contracts of Go functions by them (printed by gen.py). Conditions: none. Plain functions and the contracts of Go functions by them (printed by gen.py). Conditions: none. Plain functions and the contracts of Go functions by them (printed by gen.py). Conditions: none.
-/
import Derived.Test.YtiiaccpcoclklaaGreatBTypingUnionsProof5
import Derived.KernelRfl
set_option linter.unusedSimpArgs false
set_option linter.unusedVariables false
namespace Go.Proofs.YtiiaccpcoclklaaGreat
namespace Abs
open Go Go.Proofs
def L2_small_L0 (n : Nat) (p0 : Env) : Nat → Int → Option (LR Unit Bool)
  | 0, _ => none
  | k + 1, s2 => (cond (decide (s2 < (p0.carriers.length : Int))) ((idx p0.carriers s2).bind fun (x1 : Carrier) => (cond (decide (200 < (x1.elems.length : Int))) (some (.rt false)) (L2_small_L0 n p0 k (s2 + 1)))) (some (.nx ())))
def L2_small (n : Nat) (p0 : Env) : Option Bool := (((cond (decide (200 < (p0.carriers.length : Int))) (some true) (some (decide (200 < (p0.names.length : Int))))) : Option Bool).bind fun (s1 : Bool) => (cond s1 (some false) ((L2_small_L0 n p0 n 0).bind (LR.el (fun (s3 : Unit) => some true) (fun r => some r)))))
set_option maxRecDepth 100000 in
set_option maxHeartbeats 40000000 in
theorem L2_small_ok (n : Nat) (p0 : Env) (r : Bool) (h : L2_small n p0 = some r) : ACalls Tryz.prog 16 [.agg [.slice (List.map encCarrier p0.carriers) .shared, .slice (List.map encDecl p0.names) .shared]] [] (.bool r) [] := by
  unfold L2_small at h
  refine acalls_start true Tryz.func16 rfl (by rw [Tryz.ntmps16]; exact Nat.le_of_ble_eq_true rfl) fun Q hQ t ht => ?_
  conv at ht => whnf
  subst ht
  refine AW.seqK fun K1 hK1 => ?_
  refine AW.region τ_ok mixedO 1 ?_
  conv => whnf
  refine hK1 _ _ ?_
  refine AW.seqK fun K2 hK2 => ?_
  refine AW.seqK fun K3 hK3 => ?_
  obtain ⟨s1, hj1, h⟩ := ob h
  have hR1 : ∀ t9 h9, Le 0 t9 h9 (.unk :: (.ptr 0 0 :: (u8 (u2 (.unk :: (.bool s1 :: (u8 (u4 (u2 (.unk :: [])))))))))) [.box [.slice (List.map encCarrier p0.carriers) .shared, .slice (List.map encDecl p0.names) .shared]] → K3 t9 h9 := by
    intro t9 h9 hw
    refine hK3 _ _ (AW.le hw ?_)
    clear hw
    refine AW.condS rfl h (fun hc1 h => ?_) (fun hc1 h => ?_)
    · refine AW.seqK fun K4 hK4 => ?_
      refine AW.region τ_ok mixedO 0 ?_
      conv => whnf
      refine hK4 _ _ ?_
      refine AW.ret ?_
      conv => whnf
      have e9 := Option.some.inj h
      subst e9
      refine hQ _ _ _ (retPure τ_ok (fun g => rfl) ?_)
      conv => whnf
    · refine AW.skip ?_
      conv => whnf
      refine hK2 _ _ ?_
      refine AW.seqK fun K5 hK5 => ?_
      refine AW.seqK fun K6 hK6 => ?_
      refine AW.region τ_ok mixedO 0 ?_
      conv => whnf
      refine hK6 _ _ ?_
      refine AW.block ?_
      obtain ⟨o1, ho1, h⟩ := ob h
      have hR2 : ∀ s3 : Unit, o1 = .nx s3 → ∀ t9 h9, Le 0 t9 h9 (u16 (u8 (u4 (.unk :: [])))) [] → K5 t9 h9 := by
        intro s3 ho
        subst ho
        dsimp only [LR.el] at h
        intro t9 h9 hw
        refine hK5 _ _ (AW.le hw ?_)
        refine AW.seqK fun K7 hK7 => ?_
        refine AW.region τ_ok mixedO 0 ?_
        conv => whnf
        refine hK7 _ _ ?_
        refine AW.ret ?_
        conv => whnf
        have e9 := Option.some.inj h
        subst e9
        refine hQ _ _ _ (retPure τ_ok (fun g => rfl) ?_)
        conv => whnf
      refine AW.loopS (L2_small_L0 n p0) (fun (s2 : Int) => (.unk :: (.ptr 0 0 :: (.unk :: (.int .i64 s2 :: (u16 (u8 (.unk :: [])))))))) (fun (s2 : Int) => [.box [.slice (List.map encCarrier p0.carriers) .shared, .slice (List.map encDecl p0.names) .shared]]) ho1 (fun _ => rfl) (Le.of [some 0] (Weak.mk' rfl (.cons (.unk _) (.cons (.same rfl) (.cons (.unk _) (.cons (.same rfl) (.u16 (.u8 (.cons (.unk _) .nil))))))) (.old (.box' (.cons (.share (renl_Carrier _ _)) (.cons (.share (renl_Decl _ _)) .nil))) .nil))) ?_
      intro n1 s2 hs1 KL1 hKL1
      unfold L2_small_L0 at hs1
      refine AW.seqK fun K8 hK8 => ?_
      refine AW.seqK fun K9 hK9 => ?_
      refine AW.region τ_ok mixedO 0 ?_
      conv => whnf
      refine len_of (l := p0.carriers) (f := encCarrier) ?_
      conv => whnf
      refine hK9 _ _ ?_
      refine AW.condS rfl hs1 (fun hc2 hs1 => ?_) (fun hc2 hs1 => ?_)
      · refine AW.skip ?_
        conv => whnf
        refine hK8 _ _ ?_
        refine AW.seqK fun K10 hK10 => ?_
        refine AW.block ?_
        refine AW.seqK fun K11 hK11 => ?_
        refine AW.region τ_ok mixedO 0 ?_
        conv => whnf
        obtain ⟨x1, hx1, hs1⟩ := ob hs1
        refine idx_of (l := p0.carriers) (f := encCarrier) (cs := [.str ((x1).name), .slice (List.map encS ((x1).elems)) .shared]) hx1 (rfl) rfl ?_
        conv => whnf
        refine len_of (l := x1.elems) (f := encS) ?_
        conv => whnf
        refine hK11 _ _ ?_
        refine AW.condS rfl hs1 (fun hc3 hs1 => ?_) (fun hc3 hs1 => ?_)
        · refine AW.seqK fun K12 hK12 => ?_
          refine AW.region τ_ok mixedO 0 ?_
          conv => whnf
          refine hK12 _ _ ?_
          refine AW.ret ?_
          conv => whnf
          have e9 := Option.some.inj hs1
          subst e9
          dsimp only [LR.el] at h
          have e9 := Option.some.inj h
          subst e9
          refine hQ _ _ _ (retPure τ_ok (fun g => rfl) ?_)
          conv => whnf
        · refine AW.skip ?_
          conv => whnf
          refine hK10 _ _ ?_
          refine AW.know 3 0 fun hv1 => ?_
          refine AW.know 16 0 fun hv2 => ?_
          refine AW.region τ_ok mixedO 0 ?_
          conv => whnf
          refine ⟨(s2 + 1), by have := wf64 hv1; have := vfl hv2; have h8 := of_decide_eq_true hc2; exact w64_id (by omega) (by omega), ?_⟩
          conv => whnf
          exact hKL1 _ _ _ hs1 (Le.of [some 0] (Weak.mk' rfl (.cons (.unk _) (.cons (.same rfl) (.cons (.unk _) (.cons (.same rfl) (.u16 (.u8 (.cons (.unk _) .nil))))))) (.old (.box' (.cons (.share (renl_Carrier _ _)) (.cons (.share (renl_Decl _ _)) .nil))) .nil)))
      · refine AW.exit ?_
        conv => whnf
        exact hR2 _ (Option.some.inj hs1).symm _ _ (Le.of [] (Weak.mk' rfl (.u16 (.u8 (.u4 (.cons (.unk _) .nil)))) .nil))
  refine AW.region τ_ok mixedO 0 ?_
  conv => whnf
  refine len_of (l := p0.carriers) (f := encCarrier) ?_
  conv => whnf
  refine onB_cond hj1 (fun hc4 hj1 => ?_) (fun hc4 hj1 => ?_)
  · conv => whnf
    cases hj1
    exact hR1 _ _ (Le.of [some 0] (Weak.mk' rfl (.cons (.unk _) (.cons (.same rfl) (.u8 (.u2 (.cons (.unk _) (.cons (.same rfl) (.u8 (.u4 (.u2 (.cons (.unk _) .nil)))))))))) (.old (.box' (.cons (.share (renl_Carrier _ _)) (.cons (.share (renl_Decl _ _)) .nil))) .nil)))
  · conv => whnf
    refine len_of (l := p0.names) (f := encDecl) ?_
    conv => whnf
    cases hj1
    exact hR1 _ _ (Le.of [some 0] (Weak.mk' rfl (.cons (.unk _) (.cons (.same rfl) (.u8 (.u2 (.cons (.unk _) (.cons (.same rfl) (.u8 (.u4 (.u2 (.cons (.unk _) .nil)))))))))) (.old (.box' (.cons (.share (renl_Carrier _ _)) (.cons (.share (renl_Decl _ _)) .nil))) .nil)))
def term_letter (n : Nat) (p0 : Int) : Option Bool := (((cond (decide (97 ≤ p0)) (cond (decide (p0 ≤ 122)) (some true) (cond (decide (65 ≤ p0)) (some (decide (p0 ≤ 90))) (some false))) (cond (decide (65 ≤ p0)) (some (decide (p0 ≤ 90))) (some false))) : Option Bool).bind fun (s1 : Bool) => some s1)
set_option maxRecDepth 100000 in
set_option maxHeartbeats 40000000 in
theorem term_letter_ok (n : Nat) (p0 : Int) (r : Bool) (h : term_letter n p0 = some r) : ACalls Tryz.prog 191 [.int .u8 p0] [] (.bool r) [] := by
  unfold term_letter at h
  refine acalls_start true Tryz.func191 rfl (by rw [Tryz.ntmps191]; exact Nat.le_of_ble_eq_true rfl) fun Q hQ t ht => ?_
  conv at ht => whnf
  subst ht
  refine AW.seqK fun K1 hK1 => ?_
  refine AW.region τ_ok mixedO 0 ?_
  conv => whnf
  refine hK1 _ _ ?_
  refine AW.seqK fun K2 hK2 => ?_
  obtain ⟨s1, hj1, h⟩ := ob h
  have hR1 : ∀ t9 h9, Le 0 t9 h9 (u2 (.bool s1 :: (u8 (u4 (u2 []))))) [] → K2 t9 h9 := by
    intro t9 h9 hw
    refine hK2 _ _ (AW.le hw ?_)
    clear hw
    refine AW.ret ?_
    conv => whnf
    have e9 := Option.some.inj h
    subst e9
    refine hQ _ _ _ (retPure τ_ok (fun g => rfl) ?_)
    conv => whnf
  refine AW.region τ_ok mixedO 0 ?_
  conv => whnf
  refine onB_cond hj1 (fun hc1 hj1 => ?_) (fun hc1 hj1 => ?_)
  · conv => whnf
    refine onB_cond hj1 (fun hc2 hj1 => ?_) (fun hc2 hj1 => ?_)
    · conv => whnf
      cases hj1
      exact hR1 _ _ (Le.of [] (Weak.mk' rfl (.u2 (.cons (.same rfl) (.u8 (.u4 (.u2 .nil))))) .nil))
    · conv => whnf
      refine onB_cond hj1 (fun hc3 hj1 => ?_) (fun hc3 hj1 => ?_)
      · conv => whnf
        cases hj1
        exact hR1 _ _ (Le.of [] (Weak.mk' rfl (.u2 (.cons (.same rfl) (.u8 (.u4 (.u2 .nil))))) .nil))
      · conv => whnf
        cases hj1
        exact hR1 _ _ (Le.of [] (Weak.mk' rfl (.u2 (.cons (.same rfl) (.u8 (.u4 (.u2 .nil))))) .nil))
  · conv => whnf
    refine onB_cond hj1 (fun hc4 hj1 => ?_) (fun hc4 hj1 => ?_)
    · conv => whnf
      cases hj1
      exact hR1 _ _ (Le.of [] (Weak.mk' rfl (.u2 (.cons (.same rfl) (.u8 (.u4 (.u2 .nil))))) .nil))
    · conv => whnf
      cases hj1
      exact hR1 _ _ (Le.of [] (Weak.mk' rfl (.u2 (.cons (.same rfl) (.u8 (.u4 (.u2 .nil))))) .nil))
def term_keyword (n : Nat) (p0 : Str) : Option Bool := (((cond (p0 == ([116, 114, 117, 101] : Str)) (some (p0 == ([116, 114, 117, 101] : Str))) (cond (p0 == ([102, 97, 108, 115, 101] : Str)) (some (p0 == ([102, 97, 108, 115, 101] : Str))) (cond (p0 == ([110, 111, 116] : Str)) (some (p0 == ([110, 111, 116] : Str))) (cond (p0 == ([111, 114] : Str)) (some (p0 == ([111, 114] : Str))) (cond (p0 == ([102, 111, 114, 97, 108, 108] : Str)) (some (p0 == ([102, 111, 114, 97, 108, 108] : Str))) (cond (p0 == ([101, 120, 105, 115, 116, 115] : Str)) (some (p0 == ([101, 120, 105, 115, 116, 115] : Str))) (cond (p0 == ([105, 110] : Str)) (some (p0 == ([105, 110] : Str))) (cond (p0 == ([110, 111, 116, 105, 110] : Str)) (some (p0 == ([110, 111, 116, 105, 110] : Str))) (cond (p0 == ([115, 117, 98] : Str)) (some (p0 == ([115, 117, 98] : Str))) (cond (p0 == ([109, 111, 100] : Str)) (some (p0 == ([109, 111, 100] : Str))) (cond (p0 == ([102, 117, 110] : Str)) (some (p0 == ([102, 117, 110] : Str))) (cond (p0 == ([99, 97, 114, 100] : Str)) (some (p0 == ([99, 97, 114, 100] : Str))) (cond (p0 == ([109, 105, 110] : Str)) (some (p0 == ([109, 105, 110] : Str))) (cond (p0 == ([109, 97, 120] : Str)) (some (p0 == ([109, 97, 120] : Str))) (cond (p0 == ([100, 111, 109] : Str)) (some (p0 == ([100, 111, 109] : Str))) (cond (p0 == ([114, 97, 110] : Str)) (some (p0 == ([114, 97, 110] : Str))) (cond (p0 == ([80, 79, 87] : Str)) (some (p0 == ([80, 79, 87] : Str))) (cond (p0 == ([105, 110, 116] : Str)) (some (p0 == ([105, 110, 116] : Str))) (cond (p0 == ([98, 111, 111, 108] : Str)) (some (p0 == ([98, 111, 111, 108] : Str))) (cond (p0 == ([115, 101, 116] : Str)) (some (p0 == ([115, 101, 116] : Str))) (some (p0 == ([112, 97, 105, 114] : Str))))))))))))))))))))))) : Option Bool).bind fun (s1 : Bool) => (cond s1 (some true) (some false)))
set_option maxRecDepth 100000 in
set_option maxHeartbeats 40000000 in
theorem term_keyword_ok (n : Nat) (p0 : Str) (r : Bool) (h : term_keyword n p0 = some r) : ACalls Tryz.prog 192 [.str p0] [] (.bool r) [] := by
  unfold term_keyword at h
  refine acalls_start true Tryz.func192 rfl (by rw [Tryz.ntmps192]; exact Nat.le_of_ble_eq_true rfl) fun Q hQ t ht => ?_
  conv at ht => whnf
  subst ht
  refine AW.seqK fun K1 hK1 => ?_
  refine AW.region τ_ok mixedO 0 ?_
  conv => whnf
  refine hK1 _ _ ?_
  refine AW.seqK fun K2 hK2 => ?_
  refine AW.seqK fun K3 hK3 => ?_
  refine AW.region τ_ok mixedO 0 ?_
  conv => whnf
  refine hK3 _ _ ?_
  refine AW.block ?_
  refine AW.seqK fun K4 hK4 => ?_
  obtain ⟨s1, hj1, h⟩ := ob h
  have hR1 : ∀ t9 h9, Le 0 t9 h9 (u4 (.bool s1 :: (u16 (u4 (.unk :: []))))) [] → K4 t9 h9 := by
    intro t9 h9 hw
    refine hK4 _ _ (AW.le hw ?_)
    clear hw
    refine AW.condS rfl h (fun hc1 h => ?_) (fun hc1 h => ?_)
    · refine AW.seqK fun K5 hK5 => ?_
      refine AW.region τ_ok mixedO 0 ?_
      conv => whnf
      refine hK5 _ _ ?_
      refine AW.ret ?_
      conv => whnf
      have e9 := Option.some.inj h
      subst e9
      refine hQ _ _ _ (retPure τ_ok (fun g => rfl) ?_)
      conv => whnf
    · refine AW.skip ?_
      conv => whnf
      refine hK2 _ _ ?_
      refine AW.seqK fun K6 hK6 => ?_
      refine AW.region τ_ok mixedO 0 ?_
      conv => whnf
      refine hK6 _ _ ?_
      refine AW.ret ?_
      conv => whnf
      have e9 := Option.some.inj h
      subst e9
      refine hQ _ _ _ (retPure τ_ok (fun g => rfl) ?_)
      conv => whnf
  refine AW.seqK fun K7 hK7 => ?_
  refine AW.region τ_ok mixedO 0 ?_
  conv => whnf
  refine hK7 _ _ ?_
  refine AW.condS rfl hj1 (fun hc2 hj1 => ?_) (fun hc2 hj1 => ?_)
  · refine AW.skip ?_
    conv => whnf
    cases hj1
    exact hR1 _ _ (Le.of [] (Weak.mk' rfl (.u4 (.cons (.same rfl) (.u16 (.u4 (.cons (.unk _) .nil))))) .nil))
  · refine AW.seqK fun K8 hK8 => ?_
    refine AW.region τ_ok mixedO 0 ?_
    conv => whnf
    refine hK8 _ _ ?_
    refine AW.condS rfl hj1 (fun hc3 hj1 => ?_) (fun hc3 hj1 => ?_)
    · refine AW.skip ?_
      conv => whnf
      cases hj1
      exact hR1 _ _ (Le.of [] (Weak.mk' rfl (.u4 (.cons (.same rfl) (.u16 (.u4 (.cons (.unk _) .nil))))) .nil))
    · refine AW.seqK fun K9 hK9 => ?_
      refine AW.region τ_ok mixedO 0 ?_
      conv => whnf
      refine hK9 _ _ ?_
      refine AW.condS rfl hj1 (fun hc4 hj1 => ?_) (fun hc4 hj1 => ?_)
      · refine AW.skip ?_
        conv => whnf
        cases hj1
        exact hR1 _ _ (Le.of [] (Weak.mk' rfl (.u4 (.cons (.same rfl) (.u16 (.u4 (.cons (.unk _) .nil))))) .nil))
      · refine AW.seqK fun K10 hK10 => ?_
        refine AW.region τ_ok mixedO 0 ?_
        conv => whnf
        refine hK10 _ _ ?_
        refine AW.condS rfl hj1 (fun hc5 hj1 => ?_) (fun hc5 hj1 => ?_)
        · refine AW.skip ?_
          conv => whnf
          cases hj1
          exact hR1 _ _ (Le.of [] (Weak.mk' rfl (.u4 (.cons (.same rfl) (.u16 (.u4 (.cons (.unk _) .nil))))) .nil))
        · refine AW.seqK fun K11 hK11 => ?_
          refine AW.region τ_ok mixedO 0 ?_
          conv => whnf
          refine hK11 _ _ ?_
          refine AW.condS rfl hj1 (fun hc6 hj1 => ?_) (fun hc6 hj1 => ?_)
          · refine AW.skip ?_
            conv => whnf
            cases hj1
            exact hR1 _ _ (Le.of [] (Weak.mk' rfl (.u4 (.cons (.same rfl) (.u16 (.u4 (.cons (.unk _) .nil))))) .nil))
          · refine AW.seqK fun K12 hK12 => ?_
            refine AW.region τ_ok mixedO 0 ?_
            conv => whnf
            refine hK12 _ _ ?_
            refine AW.condS rfl hj1 (fun hc7 hj1 => ?_) (fun hc7 hj1 => ?_)
            · refine AW.skip ?_
              conv => whnf
              cases hj1
              exact hR1 _ _ (Le.of [] (Weak.mk' rfl (.u4 (.cons (.same rfl) (.u16 (.u4 (.cons (.unk _) .nil))))) .nil))
            · refine AW.seqK fun K13 hK13 => ?_
              refine AW.region τ_ok mixedO 0 ?_
              conv => whnf
              refine hK13 _ _ ?_
              refine AW.condS rfl hj1 (fun hc8 hj1 => ?_) (fun hc8 hj1 => ?_)
              · refine AW.skip ?_
                conv => whnf
                cases hj1
                exact hR1 _ _ (Le.of [] (Weak.mk' rfl (.u4 (.cons (.same rfl) (.u16 (.u4 (.cons (.unk _) .nil))))) .nil))
              · refine AW.seqK fun K14 hK14 => ?_
                refine AW.region τ_ok mixedO 0 ?_
                conv => whnf
                refine hK14 _ _ ?_
                refine AW.condS rfl hj1 (fun hc9 hj1 => ?_) (fun hc9 hj1 => ?_)
                · refine AW.skip ?_
                  conv => whnf
                  cases hj1
                  exact hR1 _ _ (Le.of [] (Weak.mk' rfl (.u4 (.cons (.same rfl) (.u16 (.u4 (.cons (.unk _) .nil))))) .nil))
                · refine AW.seqK fun K15 hK15 => ?_
                  refine AW.region τ_ok mixedO 0 ?_
                  conv => whnf
                  refine hK15 _ _ ?_
                  refine AW.condS rfl hj1 (fun hc10 hj1 => ?_) (fun hc10 hj1 => ?_)
                  · refine AW.skip ?_
                    conv => whnf
                    cases hj1
                    exact hR1 _ _ (Le.of [] (Weak.mk' rfl (.u4 (.cons (.same rfl) (.u16 (.u4 (.cons (.unk _) .nil))))) .nil))
                  · refine AW.seqK fun K16 hK16 => ?_
                    refine AW.region τ_ok mixedO 0 ?_
                    conv => whnf
                    refine hK16 _ _ ?_
                    refine AW.condS rfl hj1 (fun hc11 hj1 => ?_) (fun hc11 hj1 => ?_)
                    · refine AW.skip ?_
                      conv => whnf
                      cases hj1
                      exact hR1 _ _ (Le.of [] (Weak.mk' rfl (.u4 (.cons (.same rfl) (.u16 (.u4 (.cons (.unk _) .nil))))) .nil))
                    · refine AW.seqK fun K17 hK17 => ?_
                      refine AW.region τ_ok mixedO 0 ?_
                      conv => whnf
                      refine hK17 _ _ ?_
                      refine AW.condS rfl hj1 (fun hc12 hj1 => ?_) (fun hc12 hj1 => ?_)
                      · refine AW.skip ?_
                        conv => whnf
                        cases hj1
                        exact hR1 _ _ (Le.of [] (Weak.mk' rfl (.u4 (.cons (.same rfl) (.u16 (.u4 (.cons (.unk _) .nil))))) .nil))
                      · refine AW.seqK fun K18 hK18 => ?_
                        refine AW.region τ_ok mixedO 0 ?_
                        conv => whnf
                        refine hK18 _ _ ?_
                        refine AW.condS rfl hj1 (fun hc13 hj1 => ?_) (fun hc13 hj1 => ?_)
                        · refine AW.skip ?_
                          conv => whnf
                          cases hj1
                          exact hR1 _ _ (Le.of [] (Weak.mk' rfl (.u4 (.cons (.same rfl) (.u16 (.u4 (.cons (.unk _) .nil))))) .nil))
                        · refine AW.seqK fun K19 hK19 => ?_
                          refine AW.region τ_ok mixedO 0 ?_
                          conv => whnf
                          refine hK19 _ _ ?_
                          refine AW.condS rfl hj1 (fun hc14 hj1 => ?_) (fun hc14 hj1 => ?_)
                          · refine AW.skip ?_
                            conv => whnf
                            cases hj1
                            exact hR1 _ _ (Le.of [] (Weak.mk' rfl (.u4 (.cons (.same rfl) (.u16 (.u4 (.cons (.unk _) .nil))))) .nil))
                          · refine AW.seqK fun K20 hK20 => ?_
                            refine AW.region τ_ok mixedO 0 ?_
                            conv => whnf
                            refine hK20 _ _ ?_
                            refine AW.condS rfl hj1 (fun hc15 hj1 => ?_) (fun hc15 hj1 => ?_)
                            · refine AW.skip ?_
                              conv => whnf
                              cases hj1
                              exact hR1 _ _ (Le.of [] (Weak.mk' rfl (.u4 (.cons (.same rfl) (.u16 (.u4 (.cons (.unk _) .nil))))) .nil))
                            · refine AW.seqK fun K21 hK21 => ?_
                              refine AW.region τ_ok mixedO 0 ?_
                              conv => whnf
                              refine hK21 _ _ ?_
                              refine AW.condS rfl hj1 (fun hc16 hj1 => ?_) (fun hc16 hj1 => ?_)
                              · refine AW.skip ?_
                                conv => whnf
                                cases hj1
                                exact hR1 _ _ (Le.of [] (Weak.mk' rfl (.u4 (.cons (.same rfl) (.u16 (.u4 (.cons (.unk _) .nil))))) .nil))
                              · refine AW.seqK fun K22 hK22 => ?_
                                refine AW.region τ_ok mixedO 0 ?_
                                conv => whnf
                                refine hK22 _ _ ?_
                                refine AW.condS rfl hj1 (fun hc17 hj1 => ?_) (fun hc17 hj1 => ?_)
                                · refine AW.skip ?_
                                  conv => whnf
                                  cases hj1
                                  exact hR1 _ _ (Le.of [] (Weak.mk' rfl (.u4 (.cons (.same rfl) (.u16 (.u4 (.cons (.unk _) .nil))))) .nil))
                                · refine AW.seqK fun K23 hK23 => ?_
                                  refine AW.region τ_ok mixedO 0 ?_
                                  conv => whnf
                                  refine hK23 _ _ ?_
                                  refine AW.condS rfl hj1 (fun hc18 hj1 => ?_) (fun hc18 hj1 => ?_)
                                  · refine AW.skip ?_
                                    conv => whnf
                                    cases hj1
                                    exact hR1 _ _ (Le.of [] (Weak.mk' rfl (.u4 (.cons (.same rfl) (.u16 (.u4 (.cons (.unk _) .nil))))) .nil))
                                  · refine AW.seqK fun K24 hK24 => ?_
                                    refine AW.region τ_ok mixedO 0 ?_
                                    conv => whnf
                                    refine hK24 _ _ ?_
                                    refine AW.condS rfl hj1 (fun hc19 hj1 => ?_) (fun hc19 hj1 => ?_)
                                    · refine AW.skip ?_
                                      conv => whnf
                                      cases hj1
                                      exact hR1 _ _ (Le.of [] (Weak.mk' rfl (.u4 (.cons (.same rfl) (.u16 (.u4 (.cons (.unk _) .nil))))) .nil))
                                    · refine AW.seqK fun K25 hK25 => ?_
                                      refine AW.region τ_ok mixedO 0 ?_
                                      conv => whnf
                                      refine hK25 _ _ ?_
                                      refine AW.condS rfl hj1 (fun hc20 hj1 => ?_) (fun hc20 hj1 => ?_)
                                      · refine AW.skip ?_
                                        conv => whnf
                                        cases hj1
                                        exact hR1 _ _ (Le.of [] (Weak.mk' rfl (.u4 (.cons (.same rfl) (.u16 (.u4 (.cons (.unk _) .nil))))) .nil))
                                      · refine AW.seqK fun K26 hK26 => ?_
                                        refine AW.region τ_ok mixedO 0 ?_
                                        conv => whnf
                                        refine hK26 _ _ ?_
                                        refine AW.condS rfl hj1 (fun hc21 hj1 => ?_) (fun hc21 hj1 => ?_)
                                        · refine AW.skip ?_
                                          conv => whnf
                                          cases hj1
                                          exact hR1 _ _ (Le.of [] (Weak.mk' rfl (.u4 (.cons (.same rfl) (.u16 (.u4 (.cons (.unk _) .nil))))) .nil))
                                        · refine AW.region τ_ok mixedO 0 ?_
                                          conv => whnf
                                          cases hj1
                                          exact hR1 _ _ (Le.of [] (Weak.mk' rfl (.u4 (.cons (.same rfl) (.u16 (.u4 (.cons (.unk _) .nil))))) .nil))
def term_digit (n : Nat) (p0 : Int) : Option Bool := (((cond (decide (48 ≤ p0)) (some (decide (p0 ≤ 57))) (some false)) : Option Bool).bind fun (s1 : Bool) => some s1)
set_option maxRecDepth 100000 in
set_option maxHeartbeats 40000000 in
theorem term_digit_ok (n : Nat) (p0 : Int) (r : Bool) (h : term_digit n p0 = some r) : ACalls Tryz.prog 253 [.int .u8 p0] [] (.bool r) [] := by
  unfold term_digit at h
  refine acalls_start true Tryz.func253 rfl (by rw [Tryz.ntmps253]; exact Nat.le_of_ble_eq_true rfl) fun Q hQ t ht => ?_
  conv at ht => whnf
  subst ht
  refine AW.seqK fun K1 hK1 => ?_
  refine AW.region τ_ok mixedO 0 ?_
  conv => whnf
  refine hK1 _ _ ?_
  refine AW.seqK fun K2 hK2 => ?_
  obtain ⟨s1, hj1, h⟩ := ob h
  have hR1 : ∀ t9 h9, Le 0 t9 h9 (u2 (.bool s1 :: (u4 (u2 [])))) [] → K2 t9 h9 := by
    intro t9 h9 hw
    refine hK2 _ _ (AW.le hw ?_)
    clear hw
    refine AW.ret ?_
    conv => whnf
    have e9 := Option.some.inj h
    subst e9
    refine hQ _ _ _ (retPure τ_ok (fun g => rfl) ?_)
    conv => whnf
  refine AW.region τ_ok mixedO 0 ?_
  conv => whnf
  refine onB_cond hj1 (fun hc1 hj1 => ?_) (fun hc1 hj1 => ?_)
  · conv => whnf
    cases hj1
    exact hR1 _ _ (Le.of [] (Weak.mk' rfl (.u2 (.cons (.same rfl) (.u4 (.u2 .nil)))) .nil))
  · conv => whnf
    cases hj1
    exact hR1 _ _ (Le.of [] (Weak.mk' rfl (.u2 (.cons (.same rfl) (.u4 (.u2 .nil)))) .nil))
def term_inWord (n : Nat) (p0 : Int) : Option Bool := ((((term_letter n p0).bind fun (x1 : Bool) => (cond x1 (some true) ((term_digit n p0).bind fun (x2 : Bool) => (cond x2 (some true) (some (p0 == 95)))))) : Option Bool).bind fun (s1 : Bool) => some s1)
set_option maxRecDepth 100000 in
set_option maxHeartbeats 40000000 in
theorem term_inWord_ok (n : Nat) (p0 : Int) (r : Bool) (h : term_inWord n p0 = some r) : ACalls Tryz.prog 193 [.int .u8 p0] [] (.bool r) [] := by
  unfold term_inWord at h
  refine acalls_start true Tryz.func193 rfl (by rw [Tryz.ntmps193]; exact Nat.le_of_ble_eq_true rfl) fun Q hQ t ht => ?_
  conv at ht => whnf
  subst ht
  refine AW.seqK fun K1 hK1 => ?_
  refine AW.region τ_ok mixedO 0 ?_
  conv => whnf
  refine hK1 _ _ ?_
  refine AW.seqK fun K2 hK2 => ?_
  obtain ⟨s1, hj1, h⟩ := ob h
  have hR1 : ∀ t9 h9, Le 0 t9 h9 (u2 (.bool s1 :: (u8 (u2 [])))) [] → K2 t9 h9 := by
    intro t9 h9 hw
    refine hK2 _ _ (AW.le hw ?_)
    clear hw
    refine AW.ret ?_
    conv => whnf
    have e9 := Option.some.inj h
    subst e9
    refine hQ _ _ _ (retPure τ_ok (fun g => rfl) ?_)
    conv => whnf
  refine AW.region τ_ok mixedO 0 ?_
  conv => whnf
  obtain ⟨x1, hx1, hj1⟩ := ob hj1
  refine call_pur (term_letter_ok _ _ _ hx1) okF_191 (.cons (.same _) .nil) (fun g => rfl) (fun g => rfl) ?_
  conv => whnf
  refine onB_cond hj1 (fun hc1 hj1 => ?_) (fun hc1 hj1 => ?_)
  · conv => whnf
    cases hj1
    exact hR1 _ _ (Le.of [] (Weak.mk' rfl (.u2 (.cons (.same rfl) (.u8 (.u2 .nil)))) .nil))
  · conv => whnf
    obtain ⟨x2, hx2, hj1⟩ := ob hj1
    refine call_pur (term_digit_ok _ _ _ hx2) okF_253 (.cons (.same _) .nil) (fun g => rfl) (fun g => rfl) ?_
    conv => whnf
    refine onB_cond hj1 (fun hc2 hj1 => ?_) (fun hc2 hj1 => ?_)
    · conv => whnf
      cases hj1
      exact hR1 _ _ (Le.of [] (Weak.mk' rfl (.u2 (.cons (.same rfl) (.u8 (.u2 .nil)))) .nil))
    · conv => whnf
      cases hj1
      exact hR1 _ _ (Le.of [] (Weak.mk' rfl (.u2 (.cons (.same rfl) (.u8 (.u2 .nil)))) .nil))
def term_Identifier_L0 (n : Nat) (p0 : Str) : Nat → Int → Option (LR Unit Bool)
  | 0, _ => none
  | k + 1, s2 => (cond (decide (s2 < (p0.length : Int))) ((sidx p0 s2).bind fun (x1 : Int) => ((term_inWord n x1).bind fun (x2 : Bool) => (cond (!x2) (some (.rt false)) (term_Identifier_L0 n p0 k (s2 + 1))))) (some (.nx ())))
def term_Identifier (n : Nat) (p0 : Str) : Option Bool := (((cond (p0 == ([] : Str)) (some true) (cond (decide (16 < (p0.length : Int))) (some true) ((sidx p0 0).bind fun (x3 : Int) => ((term_letter n x3).bind fun (x4 : Bool) => (cond (!x4) (some true) ((term_keyword n p0).bind fun (x5 : Bool) => some x5)))))) : Option Bool).bind fun (s1 : Bool) => (cond s1 (some false) ((term_Identifier_L0 n p0 n 0).bind (LR.el (fun (s3 : Unit) => some true) (fun r => some r)))))
set_option maxRecDepth 100000 in
set_option maxHeartbeats 40000000 in
theorem term_Identifier_ok (n : Nat) (p0 : Str) (r : Bool) (h : term_Identifier n p0 = some r) : ACalls Tryz.prog 117 [.str p0] [] (.bool r) [] := by
  unfold term_Identifier at h
  refine acalls_start true Tryz.func117 rfl (by rw [Tryz.ntmps117]; exact Nat.le_of_ble_eq_true rfl) fun Q hQ t ht => ?_
  conv at ht => whnf
  subst ht
  refine AW.seqK fun K1 hK1 => ?_
  refine AW.region τ_ok mixedO 0 ?_
  conv => whnf
  refine hK1 _ _ ?_
  refine AW.seqK fun K2 hK2 => ?_
  refine AW.seqK fun K3 hK3 => ?_
  obtain ⟨s1, hj1, h⟩ := ob h
  have hR1 : ∀ t9 h9, Le 0 t9 h9 (.str p0 :: (u16 (u2 (.unk :: (.bool s1 :: (u8 (u2 (.unk :: [])))))))) [] → K3 t9 h9 := by
    intro t9 h9 hw
    refine hK3 _ _ (AW.le hw ?_)
    clear hw
    refine AW.condS rfl h (fun hc1 h => ?_) (fun hc1 h => ?_)
    · refine AW.seqK fun K4 hK4 => ?_
      refine AW.region τ_ok mixedO 0 ?_
      conv => whnf
      refine hK4 _ _ ?_
      refine AW.ret ?_
      conv => whnf
      have e9 := Option.some.inj h
      subst e9
      refine hQ _ _ _ (retPure τ_ok (fun g => rfl) ?_)
      conv => whnf
    · refine AW.skip ?_
      conv => whnf
      refine hK2 _ _ ?_
      refine AW.seqK fun K5 hK5 => ?_
      refine AW.seqK fun K6 hK6 => ?_
      refine AW.region τ_ok mixedO 0 ?_
      conv => whnf
      refine hK6 _ _ ?_
      refine AW.block ?_
      obtain ⟨o1, ho1, h⟩ := ob h
      have hR2 : ∀ s3 : Unit, o1 = .nx s3 → ∀ t9 h9, Le 0 t9 h9 (u32 []) [] → K5 t9 h9 := by
        intro s3 ho
        subst ho
        dsimp only [LR.el] at h
        intro t9 h9 hw
        refine hK5 _ _ (AW.le hw ?_)
        refine AW.seqK fun K7 hK7 => ?_
        refine AW.region τ_ok mixedO 0 ?_
        conv => whnf
        refine hK7 _ _ ?_
        refine AW.ret ?_
        conv => whnf
        have e9 := Option.some.inj h
        subst e9
        refine hQ _ _ _ (retPure τ_ok (fun g => rfl) ?_)
        conv => whnf
      refine AW.loopS (term_Identifier_L0 n p0) (fun (s2 : Int) => (.str p0 :: (u16 (u4 (.unk :: (.int .i64 (p0.length : Int) :: (.int .i64 s2 :: (u8 [])))))))) (fun (s2 : Int) => []) ho1 (fun _ => rfl) (Le.of [] (Weak.mk' rfl (.cons (.same rfl) (.u16 (.u4 (.cons (.unk _) (.cons (.same rfl) (.cons (.same rfl) (.u8 .nil))))))) .nil)) ?_
      intro n1 s2 hs1 KL1 hKL1
      unfold term_Identifier_L0 at hs1
      refine AW.seqK fun K8 hK8 => ?_
      refine AW.region τ_ok mixedO 0 ?_
      conv => whnf
      refine hK8 _ _ ?_
      refine AW.seqK fun K9 hK9 => ?_
      refine AW.condS rfl hs1 (fun hc2 hs1 => ?_) (fun hc2 hs1 => ?_)
      · refine AW.skip ?_
        conv => whnf
        refine hK9 _ _ ?_
        refine AW.seqK fun K10 hK10 => ?_
        refine AW.block ?_
        refine AW.seqK fun K11 hK11 => ?_
        refine AW.region τ_ok mixedO 0 ?_
        conv => whnf
        refine hK11 _ _ ?_
        refine AW.seqK fun K12 hK12 => ?_
        refine AW.region τ_ok mixedO 0 ?_
        conv => whnf
        obtain ⟨x1, hx1, hs1⟩ := ob hs1
        refine sidx_of hx1 ?_
        conv => whnf
        obtain ⟨x2, hx2, hs1⟩ := ob hs1
        refine call_pur (term_inWord_ok _ _ _ hx2) okF_193 (.cons (.same _) .nil) (fun g => rfl) (fun g => rfl) ?_
        conv => whnf
        refine hK12 _ _ ?_
        refine AW.condS rfl hs1 (fun hc3 hs1 => ?_) (fun hc3 hs1 => ?_)
        · refine AW.seqK fun K13 hK13 => ?_
          refine AW.region τ_ok mixedO 0 ?_
          conv => whnf
          refine hK13 _ _ ?_
          refine AW.ret ?_
          conv => whnf
          have e9 := Option.some.inj hs1
          subst e9
          dsimp only [LR.el] at h
          have e9 := Option.some.inj h
          subst e9
          refine hQ _ _ _ (retPure τ_ok (fun g => rfl) ?_)
          conv => whnf
        · refine AW.skip ?_
          conv => whnf
          refine hK10 _ _ ?_
          refine AW.know 3 0 fun hv1 => ?_
          refine AW.know 0 0 fun hv2 => ?_
          refine AW.region τ_ok mixedO 0 ?_
          conv => whnf
          refine ⟨(s2 + 1), by have := wf64 hv1; have := vfs hv2; have h8 := of_decide_eq_true hc2; exact w64_id (by omega) (by omega), ?_⟩
          conv => whnf
          exact hKL1 _ _ _ hs1 (Le.of [] (Weak.mk' rfl (.cons (.same rfl) (.u16 (.u4 (.cons (.unk _) (.cons (.same rfl) (.cons (.same rfl) (.u8 .nil))))))) .nil))
      · refine AW.exit ?_
        conv => whnf
        exact hR2 _ (Option.some.inj hs1).symm _ _ (Le.of [] (Weak.mk' rfl (.u32 .nil) .nil))
  refine AW.region τ_ok mixedO 0 ?_
  conv => whnf
  refine onB_cond hj1 (fun hc4 hj1 => ?_) (fun hc4 hj1 => ?_)
  · conv => whnf
    cases hj1
    exact hR1 _ _ (Le.of [] (Weak.mk' rfl (.cons (.same rfl) (.u16 (.u2 (.cons (.unk _) (.cons (.same rfl) (.u8 (.u2 (.cons (.unk _) .nil)))))))) .nil))
  · conv => whnf
    refine onB_cond hj1 (fun hc5 hj1 => ?_) (fun hc5 hj1 => ?_)
    · conv => whnf
      cases hj1
      exact hR1 _ _ (Le.of [] (Weak.mk' rfl (.cons (.same rfl) (.u16 (.u2 (.cons (.unk _) (.cons (.same rfl) (.u8 (.u2 (.cons (.unk _) .nil)))))))) .nil))
    · conv => whnf
      obtain ⟨x3, hx3, hj1⟩ := ob hj1
      refine sidx_of hx3 ?_
      conv => whnf
      obtain ⟨x4, hx4, hj1⟩ := ob hj1
      refine call_pur (term_letter_ok _ _ _ hx4) okF_191 (.cons (.same _) .nil) (fun g => rfl) (fun g => rfl) ?_
      conv => whnf
      refine onB_cond hj1 (fun hc6 hj1 => ?_) (fun hc6 hj1 => ?_)
      · conv => whnf
        cases hj1
        exact hR1 _ _ (Le.of [] (Weak.mk' rfl (.cons (.same rfl) (.u16 (.u2 (.cons (.unk _) (.cons (.same rfl) (.u8 (.u2 (.cons (.unk _) .nil)))))))) .nil))
      · conv => whnf
        obtain ⟨x5, hx5, hj1⟩ := ob hj1
        refine call_pur (term_keyword_ok _ _ _ hx5) okF_192 (.cons (.same _) .nil) (fun g => rfl) (fun g => rfl) ?_
        conv => whnf
        cases hj1
        exact hR1 _ _ (Le.of [] (Weak.mk' rfl (.cons (.same rfl) (.u16 (.u2 (.cons (.unk _) (.cons (.same rfl) (.u8 (.u2 (.cons (.unk _) .nil)))))))) .nil))
def internal_stringslite_HasSuffix (n : Nat) (p0 : Str) (p1 : Str) : Option Bool := (((cond (decide ((p1.length : Int) ≤ (p0.length : Int))) ((scut p0 (IntKind.wrap .i64 ((p0.length : Int) - (p1.length : Int))) (p0.length : Int)).bind fun (x1 : Str) => some (x1 == p1)) (some false)) : Option Bool).bind fun (s1 : Bool) => some s1)
set_option maxRecDepth 100000 in
set_option maxHeartbeats 40000000 in
theorem internal_stringslite_HasSuffix_ok (n : Nat) (p0 : Str) (p1 : Str) (r : Bool) (h : internal_stringslite_HasSuffix n p0 p1 = some r) : ACalls Tryz.prog 288 [.str p0, .str p1] [] (.bool r) [] := by
  unfold internal_stringslite_HasSuffix at h
  refine acalls_start true Tryz.func288 rfl (by rw [Tryz.ntmps288]; exact Nat.le_of_ble_eq_true rfl) fun Q hQ t ht => ?_
  conv at ht => whnf
  subst ht
  refine AW.seqK fun K1 hK1 => ?_
  refine AW.region τ_ok mixedO 0 ?_
  conv => whnf
  refine hK1 _ _ ?_
  refine AW.seqK fun K2 hK2 => ?_
  obtain ⟨s1, hj1, h⟩ := ob h
  have hR1 : ∀ t9 h9, Le 0 t9 h9 (u4 (.bool s1 :: (u16 []))) [] → K2 t9 h9 := by
    intro t9 h9 hw
    refine hK2 _ _ (AW.le hw ?_)
    clear hw
    refine AW.ret ?_
    conv => whnf
    have e9 := Option.some.inj h
    subst e9
    refine hQ _ _ _ (retPure τ_ok (fun g => rfl) ?_)
    conv => whnf
  refine AW.region τ_ok mixedO 0 ?_
  conv => whnf
  refine onB_cond hj1 (fun hc1 hj1 => ?_) (fun hc1 hj1 => ?_)
  · conv => whnf
    refine ⟨(IntKind.wrap .i64 ((p0.length : Int) - (p1.length : Int))), rfl, ?_⟩
    conv => whnf
    obtain ⟨x1, hx1, hj1⟩ := ob hj1
    refine cut_s hx1 (.int _ _ _) (.none _) ?_
    conv => whnf
    cases hj1
    exact hR1 _ _ (Le.of [] (Weak.mk' rfl (.u4 (.cons (.same rfl) (.u16 .nil))) .nil))
  · conv => whnf
    cases hj1
    exact hR1 _ _ (Le.of [] (Weak.mk' rfl (.u4 (.cons (.same rfl) (.u16 .nil))) .nil))
def internal_stringslite_TrimSuffix (n : Nat) (p0 : Str) (p1 : Str) : Option Str := ((internal_stringslite_HasSuffix n p0 p1).bind fun (x1 : Bool) => (cond x1 ((scut p0 0 (IntKind.wrap .i64 ((p0.length : Int) - (p1.length : Int)))).bind fun (x2 : Str) => some x2) (some p0)))
set_option maxRecDepth 100000 in
set_option maxHeartbeats 40000000 in
theorem internal_stringslite_TrimSuffix_ok (n : Nat) (p0 : Str) (p1 : Str) (r : Str) (h : internal_stringslite_TrimSuffix n p0 p1 = some r) : ACalls Tryz.prog 252 [.str p0, .str p1] [] (.str r) [] := by
  unfold internal_stringslite_TrimSuffix at h
  refine acalls_start true Tryz.func252 rfl (by rw [Tryz.ntmps252]; exact Nat.le_of_ble_eq_true rfl) fun Q hQ t ht => ?_
  conv at ht => whnf
  subst ht
  refine AW.seqK fun K1 hK1 => ?_
  refine AW.region τ_ok mixedO 0 ?_
  conv => whnf
  refine hK1 _ _ ?_
  refine AW.seqK fun K2 hK2 => ?_
  refine AW.seqK fun K3 hK3 => ?_
  refine AW.region τ_ok mixedO 0 ?_
  conv => whnf
  obtain ⟨x1, hx1, h⟩ := ob h
  refine call_pur (internal_stringslite_HasSuffix_ok _ _ _ _ hx1) okF_288 (.cons (.same _) (.cons (.same _) .nil)) (fun g => rfl) (fun g => rfl) ?_
  conv => whnf
  refine hK3 _ _ ?_
  refine AW.condS rfl h (fun hc1 h => ?_) (fun hc1 h => ?_)
  · refine AW.seqK fun K4 hK4 => ?_
    refine AW.region τ_ok mixedO 0 ?_
    conv => whnf
    refine ⟨(IntKind.wrap .i64 ((p0.length : Int) - (p1.length : Int))), rfl, ?_⟩
    conv => whnf
    obtain ⟨x2, hx2, h⟩ := ob h
    refine cut_s hx2 (.none _) (.int _ _ _) ?_
    conv => whnf
    refine hK4 _ _ ?_
    refine AW.ret ?_
    conv => whnf
    have e9 := Option.some.inj h
    subst e9
    refine hQ _ _ _ (retPure τ_ok (fun g => rfl) ?_)
    conv => whnf
  · refine AW.skip ?_
    conv => whnf
    refine hK2 _ _ ?_
    refine AW.seqK fun K5 hK5 => ?_
    refine AW.region τ_ok mixedO 0 ?_
    conv => whnf
    refine hK5 _ _ ?_
    refine AW.ret ?_
    conv => whnf
    have e9 := Option.some.inj h
    subst e9
    refine hQ _ _ _ (retPure τ_ok (fun g => rfl) ?_)
    conv => whnf
def strings_TrimSuffix (n : Nat) (p0 : Str) (p1 : Str) : Option Str := ((internal_stringslite_TrimSuffix n p0 p1).bind fun (x1 : Str) => some x1)
set_option maxRecDepth 100000 in
set_option maxHeartbeats 40000000 in
theorem strings_TrimSuffix_ok (n : Nat) (p0 : Str) (p1 : Str) (r : Str) (h : strings_TrimSuffix n p0 p1 = some r) : ACalls Tryz.prog 187 [.str p0, .str p1] [] (.str r) [] := by
  unfold strings_TrimSuffix at h
  refine acalls_start true Tryz.func187 rfl (by rw [Tryz.ntmps187]; exact Nat.le_of_ble_eq_true rfl) fun Q hQ t ht => ?_
  conv at ht => whnf
  subst ht
  refine AW.seqK fun K1 hK1 => ?_
  refine AW.region τ_ok mixedO 0 ?_
  conv => whnf
  refine hK1 _ _ ?_
  refine AW.seqK fun K2 hK2 => ?_
  refine AW.region τ_ok mixedO 0 ?_
  conv => whnf
  obtain ⟨x1, hx1, h⟩ := ob h
  refine call_pur (internal_stringslite_TrimSuffix_ok _ _ _ _ hx1) okF_252 (.cons (.same _) (.cons (.same _) .nil)) (fun g => rfl) (fun g => rfl) ?_
  conv => whnf
  refine hK2 _ _ ?_
  refine AW.ret ?_
  conv => whnf
  have e9 := Option.some.inj h
  subst e9
  refine hQ _ _ _ (retPure τ_ok (fun g => rfl) ?_)
  conv => whnf
def typing_nameable (n : Nat) (p0 : Str) : Option Bool := ((strings_TrimSuffix n p0 ([39] : Str)).bind fun (x1 : Str) => ((term_Identifier n x1).bind fun (x2 : Bool) => some x2))
set_option maxRecDepth 100000 in
set_option maxHeartbeats 40000000 in
theorem typing_nameable_ok (n : Nat) (p0 : Str) (r : Bool) (h : typing_nameable n p0 = some r) : ACalls Tryz.prog 112 [.str p0] [] (.bool r) [] := by
  unfold typing_nameable at h
  refine acalls_start true Tryz.func112 rfl (by rw [Tryz.ntmps112]; exact Nat.le_of_ble_eq_true rfl) fun Q hQ t ht => ?_
  conv at ht => whnf
  subst ht
  refine AW.seqK fun K1 hK1 => ?_
  refine AW.region τ_ok mixedO 0 ?_
  conv => whnf
  refine hK1 _ _ ?_
  refine AW.seqK fun K2 hK2 => ?_
  refine AW.region τ_ok mixedO 0 ?_
  conv => whnf
  obtain ⟨x1, hx1, h⟩ := ob h
  refine call_pur (strings_TrimSuffix_ok _ _ _ _ hx1) okF_187 (.cons (.same _) (.cons (.same _) .nil)) (fun g => rfl) (fun g => rfl) ?_
  conv => whnf
  obtain ⟨x2, hx2, h⟩ := ob h
  refine call_pur (term_Identifier_ok _ _ _ hx2) okF_117 (.cons (.same _) .nil) (fun g => rfl) (fun g => rfl) ?_
  conv => whnf
  refine hK2 _ _ ?_
  refine AW.ret ?_
  conv => whnf
  have e9 := Option.some.inj h
  subst e9
  refine hQ _ _ _ (retPure τ_ok (fun g => rfl) ?_)
  conv => whnf
end Abs
end Go.Proofs.YtiiaccpcoclklaaGreat
namespace Go.Proofs.YtiiaccpcoclklaaGreat
namespace Abs
open Go Go.Proofs
def term_measure_enter (n : Nat) (p0 : Int) (p1 : Int) (p2 : Int) (p3 : Int) : Option (Bool × Int) := (((cond (decide ((IntKind.wrap .i64 (p0 + 1)) ≤ p1)) (some (decide (p3 ≤ p2))) (some false)) : Option Bool).bind fun (s1 : Bool) => some (s1, (IntKind.wrap .i64 (p0 + 1))))
set_option maxRecDepth 100000 in
set_option maxHeartbeats 40000000 in
theorem term_measure_enter_ok (n : Nat) (p0 : Int) (p1 : Int) (p2 : Int) (p3 : Int) (r : Bool × Int) (h : term_measure_enter n p0 p1 p2 p3 = some r) : ACalls Tryz.prog 194 [.ptr 0 0, .int .i64 p3] [.box [.int .i64 p0, .int .i64 p1, .int .i64 p2]] (.bool r.1) [.box [.int .i64 r.2, .int .i64 p1, .int .i64 p2]] := by
  unfold term_measure_enter at h
  refine acalls_start true Tryz.func194 rfl (by rw [Tryz.ntmps194]; exact Nat.le_of_ble_eq_true rfl) fun Q hQ t ht => ?_
  conv at ht => whnf
  subst ht
  refine AW.seqK fun K1 hK1 => ?_
  refine AW.region τ_ok mixedO 0 ?_
  conv => whnf
  refine hK1 _ _ ?_
  refine AW.seqK fun K2 hK2 => ?_
  refine AW.region τ_ok mixedO 0 ?_
  conv => whnf
  refine ⟨(IntKind.wrap .i64 (p0 + 1)), rfl, ?_⟩
  conv => whnf
  refine hK2 _ _ ?_
  refine AW.seqK fun K3 hK3 => ?_
  obtain ⟨s1, hj1, h⟩ := ob h
  have hR1 : ∀ t9 h9, Le 1 t9 h9 (u4 (.bool s1 :: (u16 (u8 [])))) [.box [.int .i64 (IntKind.wrap .i64 (p0 + 1)), .int .i64 p1, .int .i64 p2]] → K3 t9 h9 := by
    intro t9 h9 hw
    refine hK3 _ _ (AW.le hw ?_)
    clear hw
    refine AW.ret ?_
    conv => whnf
    have e9 := Option.some.inj h
    subst e9
    refine hQ _ _ _ (retW (u4 (.bool s1 :: (u16 (u8 [])))) [.box [.int .i64 (IntKind.wrap .i64 (p0 + 1)), .int .i64 p1, .int .i64 p2]] (Le.of [some 0] (Weak.mk' rfl (.u4 (.cons (.same rfl) (.u16 (.u8 .nil)))) (.old (.box' (.cons (.same rfl) (.cons (.same rfl) (.cons (.same rfl) .nil)))) .nil))) (retObj τ_ok [0] rfl (.cons (rfl) .nil) ?_))
    conv => whnf
    first | rfl | (simp only [ren, renL, renLL, renT, renL_app, renl_I, renl_S, renl_U8, renl_Ty, renl_Tm, renl_Carrier, renl_Decl]; done) | (simp only [ren, renL, renLL, renT, renL_app, renl_I, renl_S, renl_U8, renl_Ty, renl_Tm, renl_Carrier, renl_Decl]; rfl)
  refine AW.region τ_ok mixedO 0 ?_
  conv => whnf
  refine onB_cond hj1 (fun hc1 hj1 => ?_) (fun hc1 hj1 => ?_)
  · conv => whnf
    refine ⟨rfl, ?_⟩
    conv => whnf
    cases hj1
    exact hR1 _ _ (Le.of [some 0] (Weak.mk' rfl (.u4 (.cons (.same rfl) (.u16 (.u8 .nil)))) (.old (.box' (.cons (.same rfl) (.cons (.same rfl) (.cons (.same rfl) .nil)))) .nil)))
  · conv => whnf
    refine ⟨rfl, ?_⟩
    conv => whnf
    cases hj1
    exact hR1 _ _ (Le.of [some 0] (Weak.mk' rfl (.u4 (.cons (.same rfl) (.u16 (.u8 .nil)))) (.old (.box' (.cons (.same rfl) (.cons (.same rfl) (.cons (.same rfl) .nil)))) .nil)))
end Abs
end Go.Proofs.YtiiaccpcoclklaaGreat
namespace Go.Proofs.YtiiaccpcoclklaaGreat
namespace Abs
open Go Go.Proofs
def slices_IndexFunc_Type_L0 (n : Nat) (rec_slices_IndexFunc_Type : (List Ty) → Int → Int → Int → Int → Option (Int × Int)) (rec_slices_ContainsFunc_Type : (List Ty) → Int → Int → Int → Int → Option (Bool × Int)) (rec_term_measure_typeFits : Int → Int → Int → Ty → Int → Bool → Option (Bool × Int)) (rec_term_measure_typeFits_1 : Ty → Int → Int → Int → Int → Option (Bool × Int)) (p0 : List Ty) (p2 : Int) (p3 : Int) (p4 : Int) : Nat → (Int × Int) → Option (LR Int (Int × Int))
  | 0, _ => none
  | k + 1, s1 => (cond (decide (s1.1 < (p0.length : Int))) ((idx p0 s1.1).bind fun (x1 : Ty) => ((rec_term_measure_typeFits_1 x1 s1.2 p2 p3 p4).bind fun (x2 : Bool × Int) => (cond x2.1 (some (.rt (s1.1, x2.2))) (slices_IndexFunc_Type_L0 n rec_slices_IndexFunc_Type rec_slices_ContainsFunc_Type rec_term_measure_typeFits rec_term_measure_typeFits_1 p0 p2 p3 p4 k ((s1.1 + 1), x2.2))))) (some (.nx s1.2)))
def slices_IndexFunc_Type_body (n : Nat) (rec_slices_IndexFunc_Type : (List Ty) → Int → Int → Int → Int → Option (Int × Int)) (rec_slices_ContainsFunc_Type : (List Ty) → Int → Int → Int → Int → Option (Bool × Int)) (rec_term_measure_typeFits : Int → Int → Int → Ty → Int → Bool → Option (Bool × Int)) (rec_term_measure_typeFits_1 : Ty → Int → Int → Int → Int → Option (Bool × Int)) (p0 : List Ty) (p1 : Int) (p2 : Int) (p3 : Int) (p4 : Int) : Option (Int × Int) := ((slices_IndexFunc_Type_L0 n rec_slices_IndexFunc_Type rec_slices_ContainsFunc_Type rec_term_measure_typeFits rec_term_measure_typeFits_1 p0 p2 p3 p4 n (0, p1)).bind (LR.el (fun (s2 : Int) => some ((-1), s2)) (fun r => some r)))
def slices_ContainsFunc_Type_body (n : Nat) (rec_slices_IndexFunc_Type : (List Ty) → Int → Int → Int → Int → Option (Int × Int)) (rec_slices_ContainsFunc_Type : (List Ty) → Int → Int → Int → Int → Option (Bool × Int)) (rec_term_measure_typeFits : Int → Int → Int → Ty → Int → Bool → Option (Bool × Int)) (rec_term_measure_typeFits_1 : Ty → Int → Int → Int → Int → Option (Bool × Int)) (p0 : List Ty) (p1 : Int) (p2 : Int) (p3 : Int) (p4 : Int) : Option (Bool × Int) := ((rec_slices_IndexFunc_Type p0 p1 p2 p3 p4).bind fun (x1 : Int × Int) => some ((decide (0 ≤ x1.1)), x1.2))
def term_measure_typeFits_body (n : Nat) (rec_slices_IndexFunc_Type : (List Ty) → Int → Int → Int → Int → Option (Int × Int)) (rec_slices_ContainsFunc_Type : (List Ty) → Int → Int → Int → Int → Option (Bool × Int)) (rec_term_measure_typeFits : Int → Int → Int → Ty → Int → Bool → Option (Bool × Int)) (rec_term_measure_typeFits_1 : Ty → Int → Int → Int → Int → Option (Bool × Int)) (p0 : Int) (p1 : Int) (p2 : Int) (p3 : Ty) (p4 : Int) (p5 : Bool) : Option (Bool × Int) := ((term_measure_enter n p0 p1 p2 p4).bind fun (x1 : Bool × Int) => (cond (!x1.1) (some (false, x1.2)) (((cond (p3.kind == 1) (some (.nx 0)) (cond (p3.kind == 2) (cond p5 (some (.rt (false, x1.2))) (some (.nx 0))) (cond (p3.kind == 3) ((term_Identifier n p3.name).bind fun (x3 : Bool) => (cond (!x3) (some (.rt (false, x1.2))) (some (.nx 0)))) (cond (p3.kind == 4) (some (.nx 2)) (cond (p3.kind == 5) (some (.nx 1)) (some (.rt (false, x1.2)))))))) : Option (LR Int (Bool × Int))).bind (LR.el (fun (s1 : Int) => (((cond ((p3.kids.length : Int) != s1) (some true) (cond (p3.kind != 3) (some (!(p3.name == ([] : Str)))) (some false))) : Option Bool).bind fun (s2 : Bool) => (cond s2 (some (false, x1.2)) ((rec_slices_ContainsFunc_Type p3.kids x1.2 p1 p2 p4).bind fun (x2 : Bool × Int) => some ((!x2.1), x2.2))))) (fun r => some r)))))
def term_measure_typeFits_1_body (n : Nat) (rec_slices_IndexFunc_Type : (List Ty) → Int → Int → Int → Int → Option (Int × Int)) (rec_slices_ContainsFunc_Type : (List Ty) → Int → Int → Int → Int → Option (Bool × Int)) (rec_term_measure_typeFits : Int → Int → Int → Ty → Int → Bool → Option (Bool × Int)) (rec_term_measure_typeFits_1 : Ty → Int → Int → Int → Int → Option (Bool × Int)) (p0 : Ty) (p1 : Int) (p2 : Int) (p3 : Int) (p4 : Int) : Option (Bool × Int) := ((rec_term_measure_typeFits p1 p2 p3 p0 (IntKind.wrap .i64 (p4 + 1)) true).bind fun (x1 : Bool × Int) => some ((!x1.1), x1.2))
mutual
def slices_IndexFunc_Type : Nat → (List Ty) → Int → Int → Int → Int → Option (Int × Int)
  | 0, _, _, _, _, _ => none
  | n + 1, p0, p1, p2, p3, p4 => slices_IndexFunc_Type_body n (fun p0 p1 p2 p3 p4 => slices_IndexFunc_Type n p0 p1 p2 p3 p4) (fun p0 p1 p2 p3 p4 => slices_ContainsFunc_Type n p0 p1 p2 p3 p4) (fun p0 p1 p2 p3 p4 p5 => term_measure_typeFits n p0 p1 p2 p3 p4 p5) (fun p0 p1 p2 p3 p4 => term_measure_typeFits_1 n p0 p1 p2 p3 p4) p0 p1 p2 p3 p4
def slices_ContainsFunc_Type : Nat → (List Ty) → Int → Int → Int → Int → Option (Bool × Int)
  | 0, _, _, _, _, _ => none
  | n + 1, p0, p1, p2, p3, p4 => slices_ContainsFunc_Type_body n (fun p0 p1 p2 p3 p4 => slices_IndexFunc_Type n p0 p1 p2 p3 p4) (fun p0 p1 p2 p3 p4 => slices_ContainsFunc_Type n p0 p1 p2 p3 p4) (fun p0 p1 p2 p3 p4 p5 => term_measure_typeFits n p0 p1 p2 p3 p4 p5) (fun p0 p1 p2 p3 p4 => term_measure_typeFits_1 n p0 p1 p2 p3 p4) p0 p1 p2 p3 p4
def term_measure_typeFits : Nat → Int → Int → Int → Ty → Int → Bool → Option (Bool × Int)
  | 0, _, _, _, _, _, _ => none
  | n + 1, p0, p1, p2, p3, p4, p5 => term_measure_typeFits_body n (fun p0 p1 p2 p3 p4 => slices_IndexFunc_Type n p0 p1 p2 p3 p4) (fun p0 p1 p2 p3 p4 => slices_ContainsFunc_Type n p0 p1 p2 p3 p4) (fun p0 p1 p2 p3 p4 p5 => term_measure_typeFits n p0 p1 p2 p3 p4 p5) (fun p0 p1 p2 p3 p4 => term_measure_typeFits_1 n p0 p1 p2 p3 p4) p0 p1 p2 p3 p4 p5
def term_measure_typeFits_1 : Nat → Ty → Int → Int → Int → Int → Option (Bool × Int)
  | 0, _, _, _, _, _ => none
  | n + 1, p0, p1, p2, p3, p4 => term_measure_typeFits_1_body n (fun p0 p1 p2 p3 p4 => slices_IndexFunc_Type n p0 p1 p2 p3 p4) (fun p0 p1 p2 p3 p4 => slices_ContainsFunc_Type n p0 p1 p2 p3 p4) (fun p0 p1 p2 p3 p4 p5 => term_measure_typeFits n p0 p1 p2 p3 p4 p5) (fun p0 p1 p2 p3 p4 => term_measure_typeFits_1 n p0 p1 p2 p3 p4) p0 p1 p2 p3 p4
end
set_option maxRecDepth 100000 in
set_option maxHeartbeats 40000000 in
theorem slices_IndexFunc_Type_body_ok (n : Nat) (rec_slices_IndexFunc_Type : (List Ty) → Int → Int → Int → Int → Option (Int × Int)) (rec_slices_ContainsFunc_Type : (List Ty) → Int → Int → Int → Int → Option (Bool × Int)) (rec_term_measure_typeFits : Int → Int → Int → Ty → Int → Bool → Option (Bool × Int)) (rec_term_measure_typeFits_1 : Ty → Int → Int → Int → Int → Option (Bool × Int)) (hrec_slices_IndexFunc_Type : ∀ (p0 : List Ty) (p1 : Int) (p2 : Int) (p3 : Int) (p4 : Int) (r : Int × Int), rec_slices_IndexFunc_Type p0 p1 p2 p3 p4 = some r → ACalls Tryz.prog 245 [.slice (List.map encTy p0) .shared, .func 244 [.ptr 0 0, .ptr 2 0]] [.box [.ptr 1 0], .box [.int .i64 p1, .int .i64 p2, .int .i64 p3], .box [.int .i64 p4]] (.int .i64 r.1) [.box [.ptr 1 0], .box [.int .i64 r.2, .int .i64 p2, .int .i64 p3], .box [.int .i64 p4]]) (hrec_slices_ContainsFunc_Type : ∀ (p0 : List Ty) (p1 : Int) (p2 : Int) (p3 : Int) (p4 : Int) (r : Bool × Int), rec_slices_ContainsFunc_Type p0 p1 p2 p3 p4 = some r → ACalls Tryz.prog 178 [.slice (List.map encTy p0) .shared, .func 244 [.ptr 0 0, .ptr 2 0]] [.box [.ptr 1 0], .box [.int .i64 p1, .int .i64 p2, .int .i64 p3], .box [.int .i64 p4]] (.bool r.1) [.box [.ptr 1 0], .box [.int .i64 r.2, .int .i64 p2, .int .i64 p3], .box [.int .i64 p4]]) (hrec_term_measure_typeFits : ∀ (p0 : Int) (p1 : Int) (p2 : Int) (p3 : Ty) (p4 : Int) (p5 : Bool) (r : Bool × Int), rec_term_measure_typeFits p0 p1 p2 p3 p4 p5 = some r → ACalls Tryz.prog 176 [.ptr 0 0, .agg [.int .i64 p3.kind, .str p3.name, .slice (List.map encTy p3.kids) .shared], .int .i64 p4, .bool p5] [.box [.int .i64 p0, .int .i64 p1, .int .i64 p2]] (.bool r.1) [.box [.int .i64 r.2, .int .i64 p1, .int .i64 p2]]) (hrec_term_measure_typeFits_1 : ∀ (p0 : Ty) (p1 : Int) (p2 : Int) (p3 : Int) (p4 : Int) (r : Bool × Int), rec_term_measure_typeFits_1 p0 p1 p2 p3 p4 = some r → ACalls Tryz.prog 244 [.agg [.int .i64 p0.kind, .str p0.name, .slice (List.map encTy p0.kids) .shared], .ptr 0 0, .ptr 2 0] [.box [.ptr 1 0], .box [.int .i64 p1, .int .i64 p2, .int .i64 p3], .box [.int .i64 p4]] (.bool r.1) [.box [.ptr 1 0], .box [.int .i64 r.2, .int .i64 p2, .int .i64 p3], .box [.int .i64 p4]]) (p0 : List Ty) (p1 : Int) (p2 : Int) (p3 : Int) (p4 : Int) (r : Int × Int) (h : slices_IndexFunc_Type_body n rec_slices_IndexFunc_Type rec_slices_ContainsFunc_Type rec_term_measure_typeFits rec_term_measure_typeFits_1 p0 p1 p2 p3 p4 = some r) : ACalls Tryz.prog 245 [.slice (List.map encTy p0) .shared, .func 244 [.ptr 0 0, .ptr 2 0]] [.box [.ptr 1 0], .box [.int .i64 p1, .int .i64 p2, .int .i64 p3], .box [.int .i64 p4]] (.int .i64 r.1) [.box [.ptr 1 0], .box [.int .i64 r.2, .int .i64 p2, .int .i64 p3], .box [.int .i64 p4]] := by
  unfold slices_IndexFunc_Type_body at h
  refine acalls_start true Tryz.func245 rfl (by rw [Tryz.ntmps245]; exact Nat.le_of_ble_eq_true rfl) fun Q hQ t ht => ?_
  conv at ht => whnf
  subst ht
  refine AW.seqK fun K1 hK1 => ?_
  refine AW.region τ_ok mixedO 0 ?_
  conv => whnf
  refine hK1 _ _ ?_
  refine AW.seqK fun K2 hK2 => ?_
  refine AW.seqK fun K3 hK3 => ?_
  refine AW.region τ_ok mixedO 0 ?_
  conv => whnf
  refine len_of (l := p0) (f := encTy) ?_
  conv => whnf
  refine hK3 _ _ ?_
  refine AW.block ?_
  obtain ⟨o1, ho1, h⟩ := ob h
  have hR1 : ∀ s2 : Int, o1 = .nx s2 → ∀ t9 h9, Le 3 t9 h9 (u16 (u2 (.unk :: []))) [.box [.ptr 1 0], .box [.int .i64 s2, .int .i64 p2, .int .i64 p3], .box [.int .i64 p4]] → K2 t9 h9 := by
    intro s2 ho
    subst ho
    dsimp only [LR.el] at h
    intro t9 h9 hw
    refine hK2 _ _ (AW.le hw ?_)
    refine AW.seqK fun K4 hK4 => ?_
    refine AW.region τ_ok mixedO 0 ?_
    conv => whnf
    refine hK4 _ _ ?_
    refine AW.ret ?_
    conv => whnf
    have e9 := Option.some.inj h
    subst e9
    refine hQ _ _ _ (retW (u4 (.int .i64 (-1) :: (u8 (u4 (u2 []))))) [.box [.ptr 1 0], .box [.int .i64 s2, .int .i64 p2, .int .i64 p3], .box [.int .i64 p4]] (Le.of [some 0, some 1, some 2] (Weak.mk' rfl (.u4 (.cons (.same rfl) (.u8 (.u4 (.u2 .nil))))) (.old (.box' (.cons (.same rfl) .nil)) (.old (.box' (.cons (.same rfl) (.cons (.same rfl) (.cons (.same rfl) .nil)))) (.old (.box' (.cons (.same rfl) .nil)) .nil))))) (retObj τ_ok [0, 1, 2] rfl (.cons (rfl) (.cons (rfl) (.cons (rfl) .nil))) ?_))
    conv => whnf
    first | rfl | (simp only [ren, renL, renLL, renT, renL_app, renl_I, renl_S, renl_U8, renl_Ty, renl_Tm, renl_Carrier, renl_Decl]; done) | (simp only [ren, renL, renLL, renT, renL_app, renl_I, renl_S, renl_U8, renl_Ty, renl_Tm, renl_Carrier, renl_Decl]; rfl)
  refine AW.loopS (slices_IndexFunc_Type_L0 n rec_slices_IndexFunc_Type rec_slices_ContainsFunc_Type rec_term_measure_typeFits rec_term_measure_typeFits_1 p0 p2 p3 p4) (fun (s1 : Int × Int) => (.slice (List.map encTy p0) .shared :: (.func 244 [.ptr 0 0, .ptr 2 0] :: (u4 (.unk :: (.int .i64 (p0.length : Int) :: (.int .i64 s1.1 :: (u8 (u2 []))))))))) (fun (s1 : Int × Int) => [.box [.ptr 1 0], .box [.int .i64 s1.2, .int .i64 p2, .int .i64 p3], .box [.int .i64 p4]]) ho1 (fun _ => rfl) (Le.of [some 0, some 1, some 2] (Weak.mk' rfl (.cons (.share (renl_Ty _ _)) (.cons (.func' (.cons (.same rfl) (.cons (.same rfl) .nil))) (.u4 (.cons (.unk _) (.cons (.same rfl) (.cons (.same rfl) (.u8 (.u2 .nil)))))))) (.old (.box' (.cons (.same rfl) .nil)) (.old (.box' (.cons (.same rfl) (.cons (.same rfl) (.cons (.same rfl) .nil)))) (.old (.box' (.cons (.same rfl) .nil)) .nil))))) ?_
  intro n1 s1 hs1 KL1 hKL1
  unfold slices_IndexFunc_Type_L0 at hs1
  refine AW.seqK fun K5 hK5 => ?_
  refine AW.region τ_ok mixedO 0 ?_
  conv => whnf
  refine hK5 _ _ ?_
  refine AW.seqK fun K6 hK6 => ?_
  refine AW.condS rfl hs1 (fun hc1 hs1 => ?_) (fun hc1 hs1 => ?_)
  · refine AW.skip ?_
    conv => whnf
    refine hK6 _ _ ?_
    refine AW.seqK fun K7 hK7 => ?_
    refine AW.block ?_
    refine AW.seqK fun K8 hK8 => ?_
    refine AW.region τ_ok mixedO 0 ?_
    conv => whnf
    refine hK8 _ _ ?_
    refine AW.seqK fun K9 hK9 => ?_
    refine AW.region τ_ok mixedO 0 ?_
    conv => whnf
    obtain ⟨x1, hx1, hs1⟩ := ob hs1
    refine idx_of (l := p0) (f := encTy) (cs := [.int .i64 ((x1).kind), .str ((x1).name), .slice (List.map encTy ((x1).kids)) .shared]) hx1 (encTy_eq x1) rfl ?_
    conv => whnf
    obtain ⟨x2, hx2, hs1⟩ := ob hs1
    refine call_gen [0, 1, 2] [] [.agg [.int .i64 x1.kind, .str x1.name, .slice (List.map encTy x1.kids) .shared], .ptr 0 0, .ptr 2 0] [.agg [.int .i64 x1.kind, .str x1.name, .slice (List.map encTy x1.kids) .shared], .ptr 0 0, .ptr 2 0] (hrec_term_measure_typeFits_1 _ _ _ _ _ _ hx2) okF_244 rfl (.cons (rfl) (.cons (rfl) (.cons (rfl) .nil))) (by simp only [ren, renL, renLL, renT, renL_app, renl_I, renl_S, renl_U8, renl_Ty, renl_Tm, renl_Carrier, renl_Decl]; try rfl) (.cons (.same _) (.cons (.same _) (.cons (.same _) .nil))) (rn := .bool x2.1) (rfl) (Hn := [.box [.ptr 1 0], .box [.int .i64 x2.2, .int .i64 p2, .int .i64 p3], .box [.int .i64 p4]]) ((rcons (rfl) (rcons (rfl) (rcons (rfl) rfl)))) ?_
    conv => whnf
    refine hK9 _ _ ?_
    refine AW.condS rfl hs1 (fun hc2 hs1 => ?_) (fun hc2 hs1 => ?_)
    · refine AW.seqK fun K10 hK10 => ?_
      refine AW.region τ_ok mixedO 0 ?_
      conv => whnf
      refine hK10 _ _ ?_
      refine AW.ret ?_
      conv => whnf
      have e9 := Option.some.inj hs1
      subst e9
      dsimp only [LR.el] at h
      have e9 := Option.some.inj h
      subst e9
      refine hQ _ _ _ (retW (u4 (.int .i64 s1.1 :: (u8 (u4 (u2 []))))) [.box [.ptr 1 0], .box [.int .i64 x2.2, .int .i64 p2, .int .i64 p3], .box [.int .i64 p4]] (Le.of [some 0, some 1, some 2] (Weak.mk' rfl (.u4 (.cons (.same rfl) (.u8 (.u4 (.u2 .nil))))) (.old (.box' (.cons (.same rfl) .nil)) (.old (.box' (.cons (.same rfl) (.cons (.same rfl) (.cons (.same rfl) .nil)))) (.old (.box' (.cons (.same rfl) .nil)) .nil))))) (retObj τ_ok [0, 1, 2] rfl (.cons (rfl) (.cons (rfl) (.cons (rfl) .nil))) ?_))
      conv => whnf
      first | rfl | (simp only [ren, renL, renLL, renT, renL_app, renl_I, renl_S, renl_U8, renl_Ty, renl_Tm, renl_Carrier, renl_Decl]; done) | (simp only [ren, renL, renLL, renT, renL_app, renl_I, renl_S, renl_U8, renl_Ty, renl_Tm, renl_Carrier, renl_Decl]; rfl)
    · refine AW.skip ?_
      conv => whnf
      refine hK7 _ _ ?_
      refine AW.know 5 0 fun hv1 => ?_
      refine AW.know 0 0 fun hv2 => ?_
      refine AW.region τ_ok mixedO 0 ?_
      conv => whnf
      refine ⟨(s1.1 + 1), by have := wf64 hv1; have := vfl hv2; have h8 := of_decide_eq_true hc1; exact w64_id (by omega) (by omega), ?_⟩
      conv => whnf
      exact hKL1 _ _ _ hs1 (Le.of [some 0, some 1, some 2] (Weak.mk' rfl (.cons (.share (renl_Ty _ _)) (.cons (.func' (.cons (.same rfl) (.cons (.same rfl) .nil))) (.u4 (.cons (.unk _) (.cons (.same rfl) (.cons (.same rfl) (.u8 (.u2 .nil)))))))) (.old (.box' (.cons (.same rfl) .nil)) (.old (.box' (.cons (.same rfl) (.cons (.same rfl) (.cons (.same rfl) .nil)))) (.old (.box' (.cons (.same rfl) .nil)) .nil)))))
  · refine AW.exit ?_
    conv => whnf
    exact hR1 _ (Option.some.inj hs1).symm _ _ (Le.of [some 0, some 1, some 2] (Weak.mk' rfl (.u16 (.u2 (.cons (.unk _) .nil))) (.old (.box' (.cons (.same rfl) .nil)) (.old (.box' (.cons (.same rfl) (.cons (.same rfl) (.cons (.same rfl) .nil)))) (.old (.box' (.cons (.same rfl) .nil)) .nil)))))
set_option maxRecDepth 100000 in
set_option maxHeartbeats 40000000 in
theorem slices_ContainsFunc_Type_body_ok (n : Nat) (rec_slices_IndexFunc_Type : (List Ty) → Int → Int → Int → Int → Option (Int × Int)) (rec_slices_ContainsFunc_Type : (List Ty) → Int → Int → Int → Int → Option (Bool × Int)) (rec_term_measure_typeFits : Int → Int → Int → Ty → Int → Bool → Option (Bool × Int)) (rec_term_measure_typeFits_1 : Ty → Int → Int → Int → Int → Option (Bool × Int)) (hrec_slices_IndexFunc_Type : ∀ (p0 : List Ty) (p1 : Int) (p2 : Int) (p3 : Int) (p4 : Int) (r : Int × Int), rec_slices_IndexFunc_Type p0 p1 p2 p3 p4 = some r → ACalls Tryz.prog 245 [.slice (List.map encTy p0) .shared, .func 244 [.ptr 0 0, .ptr 2 0]] [.box [.ptr 1 0], .box [.int .i64 p1, .int .i64 p2, .int .i64 p3], .box [.int .i64 p4]] (.int .i64 r.1) [.box [.ptr 1 0], .box [.int .i64 r.2, .int .i64 p2, .int .i64 p3], .box [.int .i64 p4]]) (hrec_slices_ContainsFunc_Type : ∀ (p0 : List Ty) (p1 : Int) (p2 : Int) (p3 : Int) (p4 : Int) (r : Bool × Int), rec_slices_ContainsFunc_Type p0 p1 p2 p3 p4 = some r → ACalls Tryz.prog 178 [.slice (List.map encTy p0) .shared, .func 244 [.ptr 0 0, .ptr 2 0]] [.box [.ptr 1 0], .box [.int .i64 p1, .int .i64 p2, .int .i64 p3], .box [.int .i64 p4]] (.bool r.1) [.box [.ptr 1 0], .box [.int .i64 r.2, .int .i64 p2, .int .i64 p3], .box [.int .i64 p4]]) (hrec_term_measure_typeFits : ∀ (p0 : Int) (p1 : Int) (p2 : Int) (p3 : Ty) (p4 : Int) (p5 : Bool) (r : Bool × Int), rec_term_measure_typeFits p0 p1 p2 p3 p4 p5 = some r → ACalls Tryz.prog 176 [.ptr 0 0, .agg [.int .i64 p3.kind, .str p3.name, .slice (List.map encTy p3.kids) .shared], .int .i64 p4, .bool p5] [.box [.int .i64 p0, .int .i64 p1, .int .i64 p2]] (.bool r.1) [.box [.int .i64 r.2, .int .i64 p1, .int .i64 p2]]) (hrec_term_measure_typeFits_1 : ∀ (p0 : Ty) (p1 : Int) (p2 : Int) (p3 : Int) (p4 : Int) (r : Bool × Int), rec_term_measure_typeFits_1 p0 p1 p2 p3 p4 = some r → ACalls Tryz.prog 244 [.agg [.int .i64 p0.kind, .str p0.name, .slice (List.map encTy p0.kids) .shared], .ptr 0 0, .ptr 2 0] [.box [.ptr 1 0], .box [.int .i64 p1, .int .i64 p2, .int .i64 p3], .box [.int .i64 p4]] (.bool r.1) [.box [.ptr 1 0], .box [.int .i64 r.2, .int .i64 p2, .int .i64 p3], .box [.int .i64 p4]]) (p0 : List Ty) (p1 : Int) (p2 : Int) (p3 : Int) (p4 : Int) (r : Bool × Int) (h : slices_ContainsFunc_Type_body n rec_slices_IndexFunc_Type rec_slices_ContainsFunc_Type rec_term_measure_typeFits rec_term_measure_typeFits_1 p0 p1 p2 p3 p4 = some r) : ACalls Tryz.prog 178 [.slice (List.map encTy p0) .shared, .func 244 [.ptr 0 0, .ptr 2 0]] [.box [.ptr 1 0], .box [.int .i64 p1, .int .i64 p2, .int .i64 p3], .box [.int .i64 p4]] (.bool r.1) [.box [.ptr 1 0], .box [.int .i64 r.2, .int .i64 p2, .int .i64 p3], .box [.int .i64 p4]] := by
  unfold slices_ContainsFunc_Type_body at h
  refine acalls_start true Tryz.func178 rfl (by rw [Tryz.ntmps178]; exact Nat.le_of_ble_eq_true rfl) fun Q hQ t ht => ?_
  conv at ht => whnf
  subst ht
  refine AW.seqK fun K1 hK1 => ?_
  refine AW.region τ_ok mixedO 0 ?_
  conv => whnf
  refine hK1 _ _ ?_
  refine AW.seqK fun K2 hK2 => ?_
  refine AW.region τ_ok mixedO 0 ?_
  conv => whnf
  obtain ⟨x1, hx1, h⟩ := ob h
  refine call_gen [0, 1, 2] [] [.slice (List.map encTy p0) .shared, .func 244 [.ptr 0 0, .ptr 2 0]] [.slice (List.map encTy p0) .shared, .func 244 [.ptr 0 0, .ptr 2 0]] (hrec_slices_IndexFunc_Type _ _ _ _ _ _ hx1) okF_245 rfl (.cons (rfl) (.cons (rfl) (.cons (rfl) .nil))) (by simp only [ren, renL, renLL, renT, renL_app, renl_I, renl_S, renl_U8, renl_Ty, renl_Tm, renl_Carrier, renl_Decl]; try rfl) (.cons (.same _) (.cons (.same _) .nil)) (rn := .int .i64 x1.1) (rfl) (Hn := [.box [.ptr 1 0], .box [.int .i64 x1.2, .int .i64 p2, .int .i64 p3], .box [.int .i64 p4]]) ((rcons (rfl) (rcons (rfl) (rcons (rfl) rfl)))) ?_
  conv => whnf
  refine hK2 _ _ ?_
  refine AW.ret ?_
  conv => whnf
  have e9 := Option.some.inj h
  subst e9
  refine hQ _ _ _ (retW (u4 (.bool (decide (0 ≤ x1.1)) :: (u4 []))) [.box [.ptr 1 0], .box [.int .i64 x1.2, .int .i64 p2, .int .i64 p3], .box [.int .i64 p4]] (Le.of [some 0, some 1, some 2] (Weak.mk' rfl (.u4 (.cons (.same rfl) (.u4 .nil))) (.old (.box' (.cons (.same rfl) .nil)) (.old (.box' (.cons (.same rfl) (.cons (.same rfl) (.cons (.same rfl) .nil)))) (.old (.box' (.cons (.same rfl) .nil)) .nil))))) (retObj τ_ok [0, 1, 2] rfl (.cons (rfl) (.cons (rfl) (.cons (rfl) .nil))) ?_))
  conv => whnf
  first | rfl | (simp only [ren, renL, renLL, renT, renL_app, renl_I, renl_S, renl_U8, renl_Ty, renl_Tm, renl_Carrier, renl_Decl]; done) | (simp only [ren, renL, renLL, renT, renL_app, renl_I, renl_S, renl_U8, renl_Ty, renl_Tm, renl_Carrier, renl_Decl]; rfl)
set_option maxRecDepth 100000 in
set_option maxHeartbeats 40000000 in
theorem term_measure_typeFits_body_ok (n : Nat) (rec_slices_IndexFunc_Type : (List Ty) → Int → Int → Int → Int → Option (Int × Int)) (rec_slices_ContainsFunc_Type : (List Ty) → Int → Int → Int → Int → Option (Bool × Int)) (rec_term_measure_typeFits : Int → Int → Int → Ty → Int → Bool → Option (Bool × Int)) (rec_term_measure_typeFits_1 : Ty → Int → Int → Int → Int → Option (Bool × Int)) (hrec_slices_IndexFunc_Type : ∀ (p0 : List Ty) (p1 : Int) (p2 : Int) (p3 : Int) (p4 : Int) (r : Int × Int), rec_slices_IndexFunc_Type p0 p1 p2 p3 p4 = some r → ACalls Tryz.prog 245 [.slice (List.map encTy p0) .shared, .func 244 [.ptr 0 0, .ptr 2 0]] [.box [.ptr 1 0], .box [.int .i64 p1, .int .i64 p2, .int .i64 p3], .box [.int .i64 p4]] (.int .i64 r.1) [.box [.ptr 1 0], .box [.int .i64 r.2, .int .i64 p2, .int .i64 p3], .box [.int .i64 p4]]) (hrec_slices_ContainsFunc_Type : ∀ (p0 : List Ty) (p1 : Int) (p2 : Int) (p3 : Int) (p4 : Int) (r : Bool × Int), rec_slices_ContainsFunc_Type p0 p1 p2 p3 p4 = some r → ACalls Tryz.prog 178 [.slice (List.map encTy p0) .shared, .func 244 [.ptr 0 0, .ptr 2 0]] [.box [.ptr 1 0], .box [.int .i64 p1, .int .i64 p2, .int .i64 p3], .box [.int .i64 p4]] (.bool r.1) [.box [.ptr 1 0], .box [.int .i64 r.2, .int .i64 p2, .int .i64 p3], .box [.int .i64 p4]]) (hrec_term_measure_typeFits : ∀ (p0 : Int) (p1 : Int) (p2 : Int) (p3 : Ty) (p4 : Int) (p5 : Bool) (r : Bool × Int), rec_term_measure_typeFits p0 p1 p2 p3 p4 p5 = some r → ACalls Tryz.prog 176 [.ptr 0 0, .agg [.int .i64 p3.kind, .str p3.name, .slice (List.map encTy p3.kids) .shared], .int .i64 p4, .bool p5] [.box [.int .i64 p0, .int .i64 p1, .int .i64 p2]] (.bool r.1) [.box [.int .i64 r.2, .int .i64 p1, .int .i64 p2]]) (hrec_term_measure_typeFits_1 : ∀ (p0 : Ty) (p1 : Int) (p2 : Int) (p3 : Int) (p4 : Int) (r : Bool × Int), rec_term_measure_typeFits_1 p0 p1 p2 p3 p4 = some r → ACalls Tryz.prog 244 [.agg [.int .i64 p0.kind, .str p0.name, .slice (List.map encTy p0.kids) .shared], .ptr 0 0, .ptr 2 0] [.box [.ptr 1 0], .box [.int .i64 p1, .int .i64 p2, .int .i64 p3], .box [.int .i64 p4]] (.bool r.1) [.box [.ptr 1 0], .box [.int .i64 r.2, .int .i64 p2, .int .i64 p3], .box [.int .i64 p4]]) (p0 : Int) (p1 : Int) (p2 : Int) (p3 : Ty) (p4 : Int) (p5 : Bool) (r : Bool × Int) (h : term_measure_typeFits_body n rec_slices_IndexFunc_Type rec_slices_ContainsFunc_Type rec_term_measure_typeFits rec_term_measure_typeFits_1 p0 p1 p2 p3 p4 p5 = some r) : ACalls Tryz.prog 176 [.ptr 0 0, .agg [.int .i64 p3.kind, .str p3.name, .slice (List.map encTy p3.kids) .shared], .int .i64 p4, .bool p5] [.box [.int .i64 p0, .int .i64 p1, .int .i64 p2]] (.bool r.1) [.box [.int .i64 r.2, .int .i64 p1, .int .i64 p2]] := by
  unfold term_measure_typeFits_body at h
  refine acalls_start true Tryz.func176 rfl (by rw [Tryz.ntmps176]; exact Nat.le_of_ble_eq_true rfl) fun Q hQ t ht => ?_
  conv at ht => whnf
  subst ht
  refine AW.seqK fun K1 hK1 => ?_
  refine AW.region τ_ok mixedO 3 ?_
  conv => whnf
  refine hK1 _ _ ?_
  refine AW.seqK fun K2 hK2 => ?_
  refine AW.seqK fun K3 hK3 => ?_
  refine AW.region τ_ok mixedO 0 ?_
  conv => whnf
  obtain ⟨x1, hx1, h⟩ := ob h
  refine call_gen [0] [] [.ptr 0 0, .int .i64 p4] [.ptr 0 0, .int .i64 p4] (term_measure_enter_ok _ _ _ _ _ _ hx1) okF_194 rfl (.cons (rfl) .nil) (rfl) (.cons (.same _) (.cons (.same _) .nil)) (rn := .bool x1.1) (rfl) (Hn := [.box [.int .i64 x1.2, .int .i64 p1, .int .i64 p2]]) ((rcons (rfl) rfl)) ?_
  conv => whnf
  refine hK3 _ _ ?_
  refine AW.condS rfl h (fun hc1 h => ?_) (fun hc1 h => ?_)
  · refine AW.seqK fun K4 hK4 => ?_
    refine AW.region τ_ok mixedO 0 ?_
    conv => whnf
    refine hK4 _ _ ?_
    refine AW.ret ?_
    conv => whnf
    have e9 := Option.some.inj h
    subst e9
    refine hQ _ _ _ (retW (u8 (.bool false :: (u32 (u8 (u2 []))))) [.box [.int .i64 x1.2, .int .i64 p1, .int .i64 p2]] (Le.of [some 0] (Weak.mk' rfl (.u8 (.cons (.same rfl) (.u32 (.u8 (.u2 .nil))))) (.old (.box' (.cons (.same rfl) (.cons (.same rfl) (.cons (.same rfl) .nil)))) .nil))) (retObj τ_ok [0] rfl (.cons (rfl) .nil) ?_))
    conv => whnf
    first | rfl | (simp only [ren, renL, renLL, renT, renL_app, renl_I, renl_S, renl_U8, renl_Ty, renl_Tm, renl_Carrier, renl_Decl]; done) | (simp only [ren, renL, renLL, renT, renL_app, renl_I, renl_S, renl_U8, renl_Ty, renl_Tm, renl_Carrier, renl_Decl]; rfl)
  · refine AW.skip ?_
    conv => whnf
    refine hK2 _ _ ?_
    refine AW.seqK fun K5 hK5 => ?_
    refine AW.region τ_ok mixedO 0 ?_
    conv => whnf
    refine hK5 _ _ ?_
    refine AW.seqK fun K6 hK6 => ?_
    obtain ⟨o1, hj1, h⟩ := ob h
    have hR1 : ∀ s1 : Int, o1 = .nx s1 → ∀ t9 h9, Le 1 t9 h9 (u4 (.ptr 1 0 :: (.ptr 2 0 :: (.ptr 3 0 :: (u2 (.int .i64 s1 :: (u32 (u8 (.unk :: []))))))))) [.box [.int .i64 x1.2, .int .i64 p1, .int .i64 p2], .box [.ptr 0 0], .box [.int .i64 p3.kind, .str p3.name, .slice (List.map encTy p3.kids) .shared], .box [.int .i64 p4]] → K6 t9 h9 := by
      intro s1 ho
      subst ho
      dsimp only [LR.el] at h
      intro t9 h9 hw
      refine hK6 _ _ (AW.le hw ?_)
      clear hw
      refine AW.seqK fun K7 hK7 => ?_
      refine AW.seqK fun K8 hK8 => ?_
      obtain ⟨s2, hj2, h⟩ := ob h
      have hR2 : ∀ t9 h9, Le 1 t9 h9 (u4 (.ptr 1 0 :: (.ptr 2 0 :: (.ptr 3 0 :: (u32 (u4 (u2 (.bool s2 :: (u4 (.unk :: [])))))))))) [.box [.int .i64 x1.2, .int .i64 p1, .int .i64 p2], .box [.ptr 0 0], .box [.int .i64 p3.kind, .str p3.name, .slice (List.map encTy p3.kids) .shared], .box [.int .i64 p4]] → K8 t9 h9 := by
        intro t9 h9 hw
        refine hK8 _ _ (AW.le hw ?_)
        clear hw
        refine AW.condS rfl h (fun hc2 h => ?_) (fun hc2 h => ?_)
        · refine AW.seqK fun K9 hK9 => ?_
          refine AW.region τ_ok mixedO 0 ?_
          conv => whnf
          refine hK9 _ _ ?_
          refine AW.ret ?_
          conv => whnf
          have e9 := Option.some.inj h
          subst e9
          refine hQ _ _ _ (retW (u8 (.bool false :: (u32 (u8 (u2 []))))) [.box [.int .i64 x1.2, .int .i64 p1, .int .i64 p2]] (Le.of [some 0] (Weak.mk' rfl (.u8 (.cons (.same rfl) (.u32 (.u8 (.u2 .nil))))) (.old (.box' (.cons (.same rfl) (.cons (.same rfl) (.cons (.same rfl) .nil)))) .nil))) (retObj τ_ok [0] rfl (.cons (rfl) .nil) ?_))
          conv => whnf
          first | rfl | (simp only [ren, renL, renLL, renT, renL_app, renl_I, renl_S, renl_U8, renl_Ty, renl_Tm, renl_Carrier, renl_Decl]; done) | (simp only [ren, renL, renLL, renT, renL_app, renl_I, renl_S, renl_U8, renl_Ty, renl_Tm, renl_Carrier, renl_Decl]; rfl)
        · refine AW.skip ?_
          conv => whnf
          refine hK7 _ _ ?_
          refine AW.seqK fun K10 hK10 => ?_
          refine AW.region τ_ok mixedO 0 ?_
          conv => whnf
          obtain ⟨x2, hx2, h⟩ := ob h
          refine call_gen [1, 0, 3] [] [.slice (List.map encTy p3.kids) .shared, .func 244 [.ptr 0 0, .ptr 2 0]] [.slice (List.map encTy p3.kids) .shared, .func 244 [.ptr 1 0, .ptr 3 0]] (hrec_slices_ContainsFunc_Type _ _ _ _ _ _ hx2) okF_178 rfl (.cons (rfl) (.cons (rfl) (.cons (rfl) .nil))) (by simp only [ren, renL, renLL, renT, renL_app, renl_I, renl_S, renl_U8, renl_Ty, renl_Tm, renl_Carrier, renl_Decl]; try rfl) (.cons (.same _) (.cons (.same _) .nil)) (rn := .bool x2.1) (rfl) (Hn := [.box [.ptr 0 0], .box [.int .i64 x2.2, .int .i64 p1, .int .i64 p2], .box [.int .i64 p4]]) ((rcons (rfl) (rcons (rfl) (rcons (rfl) rfl)))) ?_
          conv => whnf
          refine hK10 _ _ ?_
          refine AW.ret ?_
          conv => whnf
          have e9 := Option.some.inj h
          subst e9
          refine hQ _ _ _ (retW (u8 (.bool (!x2.1) :: (u32 (u8 (u2 []))))) [.box [.int .i64 x2.2, .int .i64 p1, .int .i64 p2]] (Le.of [some 0] (Weak.mk' rfl (.u8 (.cons (.same rfl) (.u32 (.u8 (.u2 .nil))))) (.old (.box' (.cons (.same rfl) (.cons (.same rfl) (.cons (.same rfl) .nil)))) .nil))) (retObj τ_ok [0] rfl (.cons (rfl) .nil) ?_))
          conv => whnf
          first | rfl | (simp only [ren, renL, renLL, renT, renL_app, renl_I, renl_S, renl_U8, renl_Ty, renl_Tm, renl_Carrier, renl_Decl]; done) | (simp only [ren, renL, renLL, renT, renL_app, renl_I, renl_S, renl_U8, renl_Ty, renl_Tm, renl_Carrier, renl_Decl]; rfl)
      refine AW.region τ_ok mixedO 0 ?_
      conv => whnf
      refine len_of (l := p3.kids) (f := encTy) ?_
      conv => whnf
      refine onB_cond hj2 (fun hc3 hj2 => ?_) (fun hc3 hj2 => ?_)
      · conv => whnf
        cases hj2
        exact hR2 _ _ (Le.of [some 0, some 1, some 2, some 3] (Weak.mk' rfl (.u4 (.cons (.same rfl) (.cons (.same rfl) (.cons (.same rfl) (.u32 (.u4 (.u2 (.cons (.same rfl) (.u4 (.cons (.unk _) .nil)))))))))) (.old (.box' (.cons (.same rfl) (.cons (.same rfl) (.cons (.same rfl) .nil)))) (.old (.box' (.cons (.same rfl) .nil)) (.old (.box' (.cons (.same rfl) (.cons (.same rfl) (.cons (.share (renl_Ty _ _)) .nil)))) (.old (.box' (.cons (.same rfl) .nil)) .nil))))))
      · conv => whnf
        refine onB_cond hj2 (fun hc4 hj2 => ?_) (fun hc4 hj2 => ?_)
        · conv => whnf
          cases hj2
          exact hR2 _ _ (Le.of [some 0, some 1, some 2, some 3] (Weak.mk' rfl (.u4 (.cons (.same rfl) (.cons (.same rfl) (.cons (.same rfl) (.u32 (.u4 (.u2 (.cons (.same rfl) (.u4 (.cons (.unk _) .nil)))))))))) (.old (.box' (.cons (.same rfl) (.cons (.same rfl) (.cons (.same rfl) .nil)))) (.old (.box' (.cons (.same rfl) .nil)) (.old (.box' (.cons (.same rfl) (.cons (.same rfl) (.cons (.share (renl_Ty _ _)) .nil)))) (.old (.box' (.cons (.same rfl) .nil)) .nil))))))
        · conv => whnf
          cases hj2
          exact hR2 _ _ (Le.of [some 0, some 1, some 2, some 3] (Weak.mk' rfl (.u4 (.cons (.same rfl) (.cons (.same rfl) (.cons (.same rfl) (.u32 (.u4 (.u2 (.cons (.same rfl) (.u4 (.cons (.unk _) .nil)))))))))) (.old (.box' (.cons (.same rfl) (.cons (.same rfl) (.cons (.same rfl) .nil)))) (.old (.box' (.cons (.same rfl) .nil)) (.old (.box' (.cons (.same rfl) (.cons (.same rfl) (.cons (.share (renl_Ty _ _)) .nil)))) (.old (.box' (.cons (.same rfl) .nil)) .nil))))))
    refine AW.seqK fun K11 hK11 => ?_
    refine AW.region τ_ok mixedO 0 ?_
    conv => whnf
    refine hK11 _ _ ?_
    refine AW.block ?_
    refine AW.seqK fun K12 hK12 => ?_
    refine AW.region τ_ok mixedO 0 ?_
    conv => whnf
    refine hK12 _ _ ?_
    refine AW.condS rfl hj1 (fun hc5 hj1 => ?_) (fun hc5 hj1 => ?_)
    · refine AW.skip ?_
      conv => whnf
      exact hR1 _ (Option.some.inj hj1).symm _ _ (Le.of [some 0, some 1, some 2, some 3] (Weak.mk' rfl (.u4 (.cons (.same rfl) (.cons (.same rfl) (.cons (.same rfl) (.u2 (.cons (.same rfl) (.u32 (.u8 (.cons (.unk _) .nil))))))))) (.old (.box' (.cons (.same rfl) (.cons (.same rfl) (.cons (.same rfl) .nil)))) (.old (.box' (.cons (.same rfl) .nil)) (.old (.box' (.cons (.same rfl) (.cons (.same rfl) (.cons (.share (renl_Ty _ _)) .nil)))) (.old (.box' (.cons (.same rfl) .nil)) .nil))))))
    · refine AW.seqK fun K13 hK13 => ?_
      refine AW.region τ_ok mixedO 0 ?_
      conv => whnf
      refine hK13 _ _ ?_
      refine AW.condS rfl hj1 (fun hc6 hj1 => ?_) (fun hc6 hj1 => ?_)
      · refine AW.seqK fun K14 hK14 => ?_
        refine AW.region τ_ok mixedO 0 ?_
        conv => whnf
        refine hK14 _ _ ?_
        refine AW.condS rfl hj1 (fun hc7 hj1 => ?_) (fun hc7 hj1 => ?_)
        · refine AW.seqK fun K15 hK15 => ?_
          refine AW.region τ_ok mixedO 0 ?_
          conv => whnf
          refine hK15 _ _ ?_
          refine AW.ret ?_
          conv => whnf
          have e9 := Option.some.inj hj1
          subst e9
          dsimp only [LR.el] at h
          have e9 := Option.some.inj h
          subst e9
          refine hQ _ _ _ (retW (u8 (.bool false :: (u32 (u8 (u2 []))))) [.box [.int .i64 x1.2, .int .i64 p1, .int .i64 p2]] (Le.of [some 0] (Weak.mk' rfl (.u8 (.cons (.same rfl) (.u32 (.u8 (.u2 .nil))))) (.old (.box' (.cons (.same rfl) (.cons (.same rfl) (.cons (.same rfl) .nil)))) .nil))) (retObj τ_ok [0] rfl (.cons (rfl) .nil) ?_))
          conv => whnf
          first | rfl | (simp only [ren, renL, renLL, renT, renL_app, renl_I, renl_S, renl_U8, renl_Ty, renl_Tm, renl_Carrier, renl_Decl]; done) | (simp only [ren, renL, renLL, renT, renL_app, renl_I, renl_S, renl_U8, renl_Ty, renl_Tm, renl_Carrier, renl_Decl]; rfl)
        · refine AW.skip ?_
          conv => whnf
          exact hR1 _ (Option.some.inj hj1).symm _ _ (Le.of [some 0, some 1, some 2, some 3] (Weak.mk' rfl (.u4 (.cons (.same rfl) (.cons (.same rfl) (.cons (.same rfl) (.u2 (.cons (.same rfl) (.u32 (.u8 (.cons (.unk _) .nil))))))))) (.old (.box' (.cons (.same rfl) (.cons (.same rfl) (.cons (.same rfl) .nil)))) (.old (.box' (.cons (.same rfl) .nil)) (.old (.box' (.cons (.same rfl) (.cons (.same rfl) (.cons (.share (renl_Ty _ _)) .nil)))) (.old (.box' (.cons (.same rfl) .nil)) .nil))))))
      · refine AW.seqK fun K16 hK16 => ?_
        refine AW.region τ_ok mixedO 0 ?_
        conv => whnf
        refine hK16 _ _ ?_
        refine AW.condS rfl hj1 (fun hc8 hj1 => ?_) (fun hc8 hj1 => ?_)
        · refine AW.seqK fun K17 hK17 => ?_
          refine AW.region τ_ok mixedO 0 ?_
          conv => whnf
          obtain ⟨x3, hx3, hj1⟩ := ob hj1
          refine call_pur (term_Identifier_ok _ _ _ hx3) okF_117 (.cons (.same _) .nil) (fun g => rfl) (fun g => rfl) ?_
          conv => whnf
          refine hK17 _ _ ?_
          refine AW.condS rfl hj1 (fun hc9 hj1 => ?_) (fun hc9 hj1 => ?_)
          · refine AW.seqK fun K18 hK18 => ?_
            refine AW.region τ_ok mixedO 0 ?_
            conv => whnf
            refine hK18 _ _ ?_
            refine AW.ret ?_
            conv => whnf
            have e9 := Option.some.inj hj1
            subst e9
            dsimp only [LR.el] at h
            have e9 := Option.some.inj h
            subst e9
            refine hQ _ _ _ (retW (u8 (.bool false :: (u32 (u8 (u2 []))))) [.box [.int .i64 x1.2, .int .i64 p1, .int .i64 p2]] (Le.of [some 0] (Weak.mk' rfl (.u8 (.cons (.same rfl) (.u32 (.u8 (.u2 .nil))))) (.old (.box' (.cons (.same rfl) (.cons (.same rfl) (.cons (.same rfl) .nil)))) .nil))) (retObj τ_ok [0] rfl (.cons (rfl) .nil) ?_))
            conv => whnf
            first | rfl | (simp only [ren, renL, renLL, renT, renL_app, renl_I, renl_S, renl_U8, renl_Ty, renl_Tm, renl_Carrier, renl_Decl]; done) | (simp only [ren, renL, renLL, renT, renL_app, renl_I, renl_S, renl_U8, renl_Ty, renl_Tm, renl_Carrier, renl_Decl]; rfl)
          · refine AW.skip ?_
            conv => whnf
            exact hR1 _ (Option.some.inj hj1).symm _ _ (Le.of [some 0, some 1, some 2, some 3] (Weak.mk' rfl (.u4 (.cons (.same rfl) (.cons (.same rfl) (.cons (.same rfl) (.u2 (.cons (.same rfl) (.u32 (.u8 (.cons (.unk _) .nil))))))))) (.old (.box' (.cons (.same rfl) (.cons (.same rfl) (.cons (.same rfl) .nil)))) (.old (.box' (.cons (.same rfl) .nil)) (.old (.box' (.cons (.same rfl) (.cons (.same rfl) (.cons (.share (renl_Ty _ _)) .nil)))) (.old (.box' (.cons (.same rfl) .nil)) .nil))))))
        · refine AW.seqK fun K19 hK19 => ?_
          refine AW.region τ_ok mixedO 0 ?_
          conv => whnf
          refine hK19 _ _ ?_
          refine AW.condS rfl hj1 (fun hc10 hj1 => ?_) (fun hc10 hj1 => ?_)
          · refine AW.region τ_ok mixedO 0 ?_
            conv => whnf
            exact hR1 _ (Option.some.inj hj1).symm _ _ (Le.of [some 0, some 1, some 2, some 3] (Weak.mk' rfl (.u4 (.cons (.same rfl) (.cons (.same rfl) (.cons (.same rfl) (.u2 (.cons (.same rfl) (.u32 (.u8 (.cons (.unk _) .nil))))))))) (.old (.box' (.cons (.same rfl) (.cons (.same rfl) (.cons (.same rfl) .nil)))) (.old (.box' (.cons (.same rfl) .nil)) (.old (.box' (.cons (.same rfl) (.cons (.same rfl) (.cons (.share (renl_Ty _ _)) .nil)))) (.old (.box' (.cons (.same rfl) .nil)) .nil))))))
          · refine AW.seqK fun K20 hK20 => ?_
            refine AW.region τ_ok mixedO 0 ?_
            conv => whnf
            refine hK20 _ _ ?_
            refine AW.condS rfl hj1 (fun hc11 hj1 => ?_) (fun hc11 hj1 => ?_)
            · refine AW.region τ_ok mixedO 0 ?_
              conv => whnf
              exact hR1 _ (Option.some.inj hj1).symm _ _ (Le.of [some 0, some 1, some 2, some 3] (Weak.mk' rfl (.u4 (.cons (.same rfl) (.cons (.same rfl) (.cons (.same rfl) (.u2 (.cons (.same rfl) (.u32 (.u8 (.cons (.unk _) .nil))))))))) (.old (.box' (.cons (.same rfl) (.cons (.same rfl) (.cons (.same rfl) .nil)))) (.old (.box' (.cons (.same rfl) .nil)) (.old (.box' (.cons (.same rfl) (.cons (.same rfl) (.cons (.share (renl_Ty _ _)) .nil)))) (.old (.box' (.cons (.same rfl) .nil)) .nil))))))
            · refine AW.seqK fun K21 hK21 => ?_
              refine AW.region τ_ok mixedO 0 ?_
              conv => whnf
              refine hK21 _ _ ?_
              refine AW.ret ?_
              conv => whnf
              have e9 := Option.some.inj hj1
              subst e9
              dsimp only [LR.el] at h
              have e9 := Option.some.inj h
              subst e9
              refine hQ _ _ _ (retW (u8 (.bool false :: (u32 (u8 (u2 []))))) [.box [.int .i64 x1.2, .int .i64 p1, .int .i64 p2]] (Le.of [some 0] (Weak.mk' rfl (.u8 (.cons (.same rfl) (.u32 (.u8 (.u2 .nil))))) (.old (.box' (.cons (.same rfl) (.cons (.same rfl) (.cons (.same rfl) .nil)))) .nil))) (retObj τ_ok [0] rfl (.cons (rfl) .nil) ?_))
              conv => whnf
              first | rfl | (simp only [ren, renL, renLL, renT, renL_app, renl_I, renl_S, renl_U8, renl_Ty, renl_Tm, renl_Carrier, renl_Decl]; done) | (simp only [ren, renL, renLL, renT, renL_app, renl_I, renl_S, renl_U8, renl_Ty, renl_Tm, renl_Carrier, renl_Decl]; rfl)
set_option maxRecDepth 100000 in
set_option maxHeartbeats 40000000 in
theorem term_measure_typeFits_1_body_ok (n : Nat) (rec_slices_IndexFunc_Type : (List Ty) → Int → Int → Int → Int → Option (Int × Int)) (rec_slices_ContainsFunc_Type : (List Ty) → Int → Int → Int → Int → Option (Bool × Int)) (rec_term_measure_typeFits : Int → Int → Int → Ty → Int → Bool → Option (Bool × Int)) (rec_term_measure_typeFits_1 : Ty → Int → Int → Int → Int → Option (Bool × Int)) (hrec_slices_IndexFunc_Type : ∀ (p0 : List Ty) (p1 : Int) (p2 : Int) (p3 : Int) (p4 : Int) (r : Int × Int), rec_slices_IndexFunc_Type p0 p1 p2 p3 p4 = some r → ACalls Tryz.prog 245 [.slice (List.map encTy p0) .shared, .func 244 [.ptr 0 0, .ptr 2 0]] [.box [.ptr 1 0], .box [.int .i64 p1, .int .i64 p2, .int .i64 p3], .box [.int .i64 p4]] (.int .i64 r.1) [.box [.ptr 1 0], .box [.int .i64 r.2, .int .i64 p2, .int .i64 p3], .box [.int .i64 p4]]) (hrec_slices_ContainsFunc_Type : ∀ (p0 : List Ty) (p1 : Int) (p2 : Int) (p3 : Int) (p4 : Int) (r : Bool × Int), rec_slices_ContainsFunc_Type p0 p1 p2 p3 p4 = some r → ACalls Tryz.prog 178 [.slice (List.map encTy p0) .shared, .func 244 [.ptr 0 0, .ptr 2 0]] [.box [.ptr 1 0], .box [.int .i64 p1, .int .i64 p2, .int .i64 p3], .box [.int .i64 p4]] (.bool r.1) [.box [.ptr 1 0], .box [.int .i64 r.2, .int .i64 p2, .int .i64 p3], .box [.int .i64 p4]]) (hrec_term_measure_typeFits : ∀ (p0 : Int) (p1 : Int) (p2 : Int) (p3 : Ty) (p4 : Int) (p5 : Bool) (r : Bool × Int), rec_term_measure_typeFits p0 p1 p2 p3 p4 p5 = some r → ACalls Tryz.prog 176 [.ptr 0 0, .agg [.int .i64 p3.kind, .str p3.name, .slice (List.map encTy p3.kids) .shared], .int .i64 p4, .bool p5] [.box [.int .i64 p0, .int .i64 p1, .int .i64 p2]] (.bool r.1) [.box [.int .i64 r.2, .int .i64 p1, .int .i64 p2]]) (hrec_term_measure_typeFits_1 : ∀ (p0 : Ty) (p1 : Int) (p2 : Int) (p3 : Int) (p4 : Int) (r : Bool × Int), rec_term_measure_typeFits_1 p0 p1 p2 p3 p4 = some r → ACalls Tryz.prog 244 [.agg [.int .i64 p0.kind, .str p0.name, .slice (List.map encTy p0.kids) .shared], .ptr 0 0, .ptr 2 0] [.box [.ptr 1 0], .box [.int .i64 p1, .int .i64 p2, .int .i64 p3], .box [.int .i64 p4]] (.bool r.1) [.box [.ptr 1 0], .box [.int .i64 r.2, .int .i64 p2, .int .i64 p3], .box [.int .i64 p4]]) (p0 : Ty) (p1 : Int) (p2 : Int) (p3 : Int) (p4 : Int) (r : Bool × Int) (h : term_measure_typeFits_1_body n rec_slices_IndexFunc_Type rec_slices_ContainsFunc_Type rec_term_measure_typeFits rec_term_measure_typeFits_1 p0 p1 p2 p3 p4 = some r) : ACalls Tryz.prog 244 [.agg [.int .i64 p0.kind, .str p0.name, .slice (List.map encTy p0.kids) .shared], .ptr 0 0, .ptr 2 0] [.box [.ptr 1 0], .box [.int .i64 p1, .int .i64 p2, .int .i64 p3], .box [.int .i64 p4]] (.bool r.1) [.box [.ptr 1 0], .box [.int .i64 r.2, .int .i64 p2, .int .i64 p3], .box [.int .i64 p4]] := by
  unfold term_measure_typeFits_1_body at h
  refine acalls_start true Tryz.func244 rfl (by rw [Tryz.ntmps244]; exact Nat.le_of_ble_eq_true rfl) fun Q hQ t ht => ?_
  conv at ht => whnf
  subst ht
  refine AW.seqK fun K1 hK1 => ?_
  refine AW.region τ_ok mixedO 1 ?_
  conv => whnf
  refine hK1 _ _ ?_
  refine AW.seqK fun K2 hK2 => ?_
  refine AW.region τ_ok mixedO 0 ?_
  conv => whnf
  refine ⟨(IntKind.wrap .i64 (p4 + 1)), rfl, ?_⟩
  conv => whnf
  obtain ⟨x1, hx1, h⟩ := ob h
  refine call_gen [1] [] [.ptr 0 0, .agg [.int .i64 p0.kind, .str p0.name, .slice (List.map encTy p0.kids) .shared], .int .i64 (IntKind.wrap .i64 (p4 + 1)), .bool true] [.ptr 1 0, .agg [.int .i64 p0.kind, .str p0.name, .slice (List.map encTy p0.kids) .shared], .int .i64 (IntKind.wrap .i64 (p4 + 1)), .bool true] (hrec_term_measure_typeFits _ _ _ _ _ _ _ hx1) okF_176 rfl (.cons (rfl) .nil) (by simp only [ren, renL, renLL, renT, renL_app, renl_I, renl_S, renl_U8, renl_Ty, renl_Tm, renl_Carrier, renl_Decl]; try rfl) (.cons (.same _) (.cons (.same _) (.cons (.same _) (.cons (.same _) .nil)))) (rn := .bool x1.1) (rfl) (Hn := [.box [.int .i64 x1.2, .int .i64 p2, .int .i64 p3]]) ((rcons (rfl) rfl)) ?_
  conv => whnf
  refine hK2 _ _ ?_
  refine AW.ret ?_
  conv => whnf
  have e9 := Option.some.inj h
  subst e9
  refine hQ _ _ _ (retW (u4 (.bool (!x1.1) :: (u4 (u2 [])))) [.box [.ptr 1 0], .box [.int .i64 x1.2, .int .i64 p2, .int .i64 p3], .box [.int .i64 p4]] (Le.of [some 0, some 1, some 2] (Weak.mk' rfl (.u4 (.cons (.same rfl) (.u4 (.u2 .nil)))) (.old (.box' (.cons (.same rfl) .nil)) (.old (.box' (.cons (.same rfl) (.cons (.same rfl) (.cons (.same rfl) .nil)))) (.old (.box' (.cons (.same rfl) .nil)) .nil))))) (retObj τ_ok [0, 1, 2] rfl (.cons (rfl) (.cons (rfl) (.cons (rfl) .nil))) ?_))
  conv => whnf
  first | rfl | (simp only [ren, renL, renLL, renT, renL_app, renl_I, renl_S, renl_U8, renl_Ty, renl_Tm, renl_Carrier, renl_Decl]; done) | (simp only [ren, renL, renLL, renT, renL_app, renl_I, renl_S, renl_U8, renl_Ty, renl_Tm, renl_Carrier, renl_Decl]; rfl)
theorem slices_IndexFunc_Type_all (n : Nat) : (∀ (p0 : List Ty) (p1 : Int) (p2 : Int) (p3 : Int) (p4 : Int) (r : Int × Int), slices_IndexFunc_Type n p0 p1 p2 p3 p4 = some r → ACalls Tryz.prog 245 [.slice (List.map encTy p0) .shared, .func 244 [.ptr 0 0, .ptr 2 0]] [.box [.ptr 1 0], .box [.int .i64 p1, .int .i64 p2, .int .i64 p3], .box [.int .i64 p4]] (.int .i64 r.1) [.box [.ptr 1 0], .box [.int .i64 r.2, .int .i64 p2, .int .i64 p3], .box [.int .i64 p4]]) ∧ (∀ (p0 : List Ty) (p1 : Int) (p2 : Int) (p3 : Int) (p4 : Int) (r : Bool × Int), slices_ContainsFunc_Type n p0 p1 p2 p3 p4 = some r → ACalls Tryz.prog 178 [.slice (List.map encTy p0) .shared, .func 244 [.ptr 0 0, .ptr 2 0]] [.box [.ptr 1 0], .box [.int .i64 p1, .int .i64 p2, .int .i64 p3], .box [.int .i64 p4]] (.bool r.1) [.box [.ptr 1 0], .box [.int .i64 r.2, .int .i64 p2, .int .i64 p3], .box [.int .i64 p4]]) ∧ (∀ (p0 : Int) (p1 : Int) (p2 : Int) (p3 : Ty) (p4 : Int) (p5 : Bool) (r : Bool × Int), term_measure_typeFits n p0 p1 p2 p3 p4 p5 = some r → ACalls Tryz.prog 176 [.ptr 0 0, .agg [.int .i64 p3.kind, .str p3.name, .slice (List.map encTy p3.kids) .shared], .int .i64 p4, .bool p5] [.box [.int .i64 p0, .int .i64 p1, .int .i64 p2]] (.bool r.1) [.box [.int .i64 r.2, .int .i64 p1, .int .i64 p2]]) ∧ (∀ (p0 : Ty) (p1 : Int) (p2 : Int) (p3 : Int) (p4 : Int) (r : Bool × Int), term_measure_typeFits_1 n p0 p1 p2 p3 p4 = some r → ACalls Tryz.prog 244 [.agg [.int .i64 p0.kind, .str p0.name, .slice (List.map encTy p0.kids) .shared], .ptr 0 0, .ptr 2 0] [.box [.ptr 1 0], .box [.int .i64 p1, .int .i64 p2, .int .i64 p3], .box [.int .i64 p4]] (.bool r.1) [.box [.ptr 1 0], .box [.int .i64 r.2, .int .i64 p2, .int .i64 p3], .box [.int .i64 p4]]) := by
  induction n with
  | zero => exact ⟨(fun p0 p1 p2 p3 p4 r h => by unfold slices_IndexFunc_Type at h; cases h), (fun p0 p1 p2 p3 p4 r h => by unfold slices_ContainsFunc_Type at h; cases h), (fun p0 p1 p2 p3 p4 p5 r h => by unfold term_measure_typeFits at h; cases h), (fun p0 p1 p2 p3 p4 r h => by unfold term_measure_typeFits_1 at h; cases h)⟩
  | succ n ih =>
    exact ⟨(fun p0 p1 p2 p3 p4 r h => slices_IndexFunc_Type_body_ok n _ _ _ _ ih.1 ih.2.1 ih.2.2.1 ih.2.2.2 p0 p1 p2 p3 p4 r (by unfold slices_IndexFunc_Type at h; exact h)), (fun p0 p1 p2 p3 p4 r h => slices_ContainsFunc_Type_body_ok n _ _ _ _ ih.1 ih.2.1 ih.2.2.1 ih.2.2.2 p0 p1 p2 p3 p4 r (by unfold slices_ContainsFunc_Type at h; exact h)), (fun p0 p1 p2 p3 p4 p5 r h => term_measure_typeFits_body_ok n _ _ _ _ ih.1 ih.2.1 ih.2.2.1 ih.2.2.2 p0 p1 p2 p3 p4 p5 r (by unfold term_measure_typeFits at h; exact h)), (fun p0 p1 p2 p3 p4 r h => term_measure_typeFits_1_body_ok n _ _ _ _ ih.1 ih.2.1 ih.2.2.1 ih.2.2.2 p0 p1 p2 p3 p4 r (by unfold term_measure_typeFits_1 at h; exact h))⟩
theorem slices_IndexFunc_Type_ok (n : Nat) (p0 : List Ty) (p1 : Int) (p2 : Int) (p3 : Int) (p4 : Int) (r : Int × Int) (h : slices_IndexFunc_Type n p0 p1 p2 p3 p4 = some r) : ACalls Tryz.prog 245 [.slice (List.map encTy p0) .shared, .func 244 [.ptr 0 0, .ptr 2 0]] [.box [.ptr 1 0], .box [.int .i64 p1, .int .i64 p2, .int .i64 p3], .box [.int .i64 p4]] (.int .i64 r.1) [.box [.ptr 1 0], .box [.int .i64 r.2, .int .i64 p2, .int .i64 p3], .box [.int .i64 p4]] := (slices_IndexFunc_Type_all n).1 p0 p1 p2 p3 p4 r h
theorem slices_ContainsFunc_Type_ok (n : Nat) (p0 : List Ty) (p1 : Int) (p2 : Int) (p3 : Int) (p4 : Int) (r : Bool × Int) (h : slices_ContainsFunc_Type n p0 p1 p2 p3 p4 = some r) : ACalls Tryz.prog 178 [.slice (List.map encTy p0) .shared, .func 244 [.ptr 0 0, .ptr 2 0]] [.box [.ptr 1 0], .box [.int .i64 p1, .int .i64 p2, .int .i64 p3], .box [.int .i64 p4]] (.bool r.1) [.box [.ptr 1 0], .box [.int .i64 r.2, .int .i64 p2, .int .i64 p3], .box [.int .i64 p4]] := (slices_IndexFunc_Type_all n).2.1 p0 p1 p2 p3 p4 r h
theorem term_measure_typeFits_ok (n : Nat) (p0 : Int) (p1 : Int) (p2 : Int) (p3 : Ty) (p4 : Int) (p5 : Bool) (r : Bool × Int) (h : term_measure_typeFits n p0 p1 p2 p3 p4 p5 = some r) : ACalls Tryz.prog 176 [.ptr 0 0, .agg [.int .i64 p3.kind, .str p3.name, .slice (List.map encTy p3.kids) .shared], .int .i64 p4, .bool p5] [.box [.int .i64 p0, .int .i64 p1, .int .i64 p2]] (.bool r.1) [.box [.int .i64 r.2, .int .i64 p1, .int .i64 p2]] := (slices_IndexFunc_Type_all n).2.2.1 p0 p1 p2 p3 p4 p5 r h
theorem term_measure_typeFits_1_ok (n : Nat) (p0 : Ty) (p1 : Int) (p2 : Int) (p3 : Int) (p4 : Int) (r : Bool × Int) (h : term_measure_typeFits_1 n p0 p1 p2 p3 p4 = some r) : ACalls Tryz.prog 244 [.agg [.int .i64 p0.kind, .str p0.name, .slice (List.map encTy p0.kids) .shared], .ptr 0 0, .ptr 2 0] [.box [.ptr 1 0], .box [.int .i64 p1, .int .i64 p2, .int .i64 p3], .box [.int .i64 p4]] (.bool r.1) [.box [.ptr 1 0], .box [.int .i64 r.2, .int .i64 p2, .int .i64 p3], .box [.int .i64 p4]] := (slices_IndexFunc_Type_all n).2.2.2 p0 p1 p2 p3 p4 r h
end Abs
end Go.Proofs.YtiiaccpcoclklaaGreat

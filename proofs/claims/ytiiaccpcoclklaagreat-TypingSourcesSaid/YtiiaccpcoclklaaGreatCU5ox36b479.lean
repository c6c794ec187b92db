/-
  Contracts of Go functions (printed). Conditions: none.
-/
import Derived.KernelRfl
import Derived.Test.YtiiaccpcoclklaaGreatCT16ox7570a3
set_option linter.unusedSimpArgs false
set_option linter.unusedVariables false
namespace Go.Proofs.YtiiaccpcoclklaaGreat
namespace Abs
open Go Go.Proofs
set_option maxRecDepth 100000
set_option maxHeartbeats 40000000
abbrev qad (qcw : Int → Option Str) : Prop := ∀ (p0 : Int) (r : Str), qcw p0 = some r → aB Tryz.prog 162 [.i p0] [] (.str r) []
theorem Tx (n : Nat) (qcw : Int → Option Str) (qbb : qad qcw) (p0 : Int) (r : Str) (h : rE n qcw p0 = some r) : aB Tryz.prog 162 [.i p0] [] (.str r) [] := by
 unfold rE at h
 refine ah true Tryz.func162 rfl (nt Tryz.ntmps162 rfl) fun Q hQ t ht => ?_
 conv at ht => whnf
 subst ht
 refine .r fun K1 k1 => (k1 _ _ ?_)
 refine .q fun K2 k2 => .r fun K3 k3 => (k3 _ _ ?_)
 refine .ak rfl h (fun hc1 h => ?_) (fun hc1 h => ?_)
 ·refine .r fun K4 k4 => (k4 _ _ ?_)
  refine .ret ?_
  obtain rfl := sj h
  exact hQ _ _ _ rp
 refine .skip (k2 _ _ ?_)
 refine .q fun K5 k5 => .r fun K6 k6 => (k6 _ _ ?_)
 refine .ak rfl h (fun hc2 h => ?_) (fun hc2 h => ?_)
 ·refine .r fun K7 k7 => ?_
  obtain ⟨x1, hx1, h⟩ := ob h
  refine aj (qbb _ _ hx1) aM (.cons (.same _) .nil) (fun g => rfl) (fun g => rfl) ?_
  obtain ⟨x2, hx2, h⟩ := ob h
  refine dV hx2 (k7 _ _ ?_)
  refine .ret ?_
  obtain rfl := sj h
  exact hQ _ _ _ rp
 refine .skip (k5 _ _ ?_)
 refine .q fun K8 k8 => .r fun K9 k9 => (k9 _ _ ?_)
 refine .ak rfl h (fun hc3 h => ?_) (fun hc3 h => ?_)
 ·refine .r1 fun K10 k10 => (⟨(IntKind.wrap .i64 (48 + p0)), rfl, ?_⟩)
  refine ⟨List.map IC ([(IntKind.wrap .u8 (IntKind.wrap .i64 (48 + p0)))]), rfl, ?_⟩
  refine ahy (l := [(IntKind.wrap .u8 (IntKind.wrap .i64 (48 + p0)))]) (k10 _ _ ?_)
  refine .ret ?_
  obtain rfl := sj h
  exact hQ _ _ _ rp
 refine .skip (k8 _ _ ?_)
 refine .r1 fun K11 k11 => ?_
 obtain ⟨x3, hx3, h⟩ := ob h
 refine aj (qbb _ _ hx3) aM (.cons (.same _) .nil) (fun g => rfl) (fun g => rfl) (⟨(IntKind.wrap .i64 (48 + (Int.tmod p0 10))), rfl, ?_⟩)
 refine ⟨List.map IC ([(IntKind.wrap .u8 (IntKind.wrap .i64 (48 + (Int.tmod p0 10))))]), rfl, ?_⟩
 refine ahy (l := [(IntKind.wrap .u8 (IntKind.wrap .i64 (48 + (Int.tmod p0 10))))]) ?_
 obtain ⟨x4, hx4, h⟩ := ob h
 refine dV hx4 (⟨rfl, ?_⟩)
 refine k11 _ _ (.ret ?_)
 obtain rfl := sj h
 exact hQ _ _ _ rp
theorem aeF (n : Nat) : qad (kI n) := by
 induction n with
 | zero => exact (fun p0 r h => by unfold kI at h; cases h)
 | succ n ih =>
  exact (fun p0 r h => Tx n _ ih p0 r (by unfold kI at h; exact h))
theorem Ra (n : Nat) : qad (kI n) := (aeF n)
abbrev qaw (qdk : Tm → Option Str) : Prop := ∀ (p0 : Tm) (r : Str), qdk p0 = some r → aB Tryz.prog 85 [bD p0] [] (.str r) []
abbrev qai (qc7 : Tm → Option Str) : Prop := ∀ (p0 : Tm) (r : Str), qc7 p0 = some r → aB Tryz.prog 164 [bD p0] [] (.str r) []
theorem abo (n : Nat) (qdk : Tm → Option Str) (qc7 : Tm → Option Str) (qbt : qaw qdk) (qbg : qai qc7) (p0 : Tm) (r : Str) (h : zQ n qdk qc7 p0 = some r) : aB Tryz.prog 85 [bD p0] [] (.str r) [] := by
 unfold zQ at h
 refine ah true Tryz.func85 rfl (nt Tryz.ntmps85 rfl) fun Q hQ t ht => ?_
 conv at ht => whnf
 subst ht
 refine .r1 fun K1 k1 => (k1 _ _ ?_)
 refine .r fun K2 k2 => (k2 _ _ ?_)
 refine .q fun K3 k3 => .r fun K4 k4 => (k4 _ _ ?_)
 refine .block (.r fun K5 k5 => ?_)
 refine k5 _ _ (.ak rfl h (fun hc1 h => ?_) (fun hc1 h => ?_))
 ·refine .r fun K6 k6 => (k6 _ _ ?_)
  refine .ret ?_
  obtain rfl := sj h
  exact hQ _ _ _ rp
 refine .r fun K7 k7 => (k7 _ _ ?_)
 refine .ak rfl h (fun hc2 h => ?_) (fun hc2 h => ?_)
 ·refine .r fun K8 k8 => (k8 _ _ ?_)
  refine .ret ?_
  obtain rfl := sj h
  exact hQ _ _ _ rp
 refine .r fun K9 k9 => (k9 _ _ ?_)
 refine .ak rfl h (fun hc3 h => ?_) (fun hc3 h => ?_)
 ·refine .r fun K10 k10 => ?_
  obtain ⟨x1, hx1, h⟩ := ob h
  refine aj (Ra _ _ _ hx1) aM (.cons (.same _) .nil) (fun g => rfl) (fun g => rfl) (k10 _ _ ?_)
  refine .ret ?_
  obtain rfl := sj h
  exact hQ _ _ _ rp
 refine .r fun K11 k11 => (k11 _ _ ?_)
 refine .ak rfl h (fun hc4 h => ?_) (fun hc4 h => ?_)
 ·refine .r fun K12 k12 => (k12 _ _ ?_)
  refine .ret ?_
  obtain rfl := sj h
  exact hQ _ _ _ rp
 refine .r fun K13 k13 => (k13 _ _ ?_)
 refine .ak rfl h (fun hc5 h => ?_) (fun hc5 h => ?_)
 ·refine .r fun K14 k14 => ?_
  obtain ⟨x2, hx2, h⟩ := ob h
  refine aj (ae0 _ _ _ hx2) aM (.cons (.same _) .nil) (fun g => by simp) (fun g => rfl) ?_
  obtain ⟨x3, hx3, h⟩ := ob h
  refine dV hx3 ?_
  obtain ⟨x4, hx4, h⟩ := ob h
  refine dV hx4 (k14 _ _ ?_)
  refine .ret ?_
  obtain rfl := sj h
  exact hQ _ _ _ rp
 refine .r fun K15 k15 => (k15 _ _ ?_)
 refine .ak rfl h (fun hc6 h => ?_) (fun hc6 h => ?_)
 ·refine .r fun K16 k16 => ?_
  obtain ⟨x5, hx5, h⟩ := ob h
  refine aG (l := p0.kids) (f := aN) (cs := [.i ((x5).op), .str ((x5).name), .i ((x5).n), .i (((x5).ty).kind), .str (((x5).ty).name), aH (((x5).ty).kids), aZ ((x5).kids)]) hx5 (aS x5) rfl ?_
  obtain ⟨x6, hx6, h⟩ := ob h
  refine aj (qbg _ _ hx6) aM (.cons (.same _) .nil) (fun g => by simp) (fun g => rfl) ?_
  obtain ⟨x7, hx7, h⟩ := ob h
  refine dV hx7 (k16 _ _ ?_)
  refine .ret ?_
  obtain rfl := sj h
  exact hQ _ _ _ rp
 refine .r fun K17 k17 => (k17 _ _ ?_)
 refine .ak rfl h (fun hc7 h => ?_) (fun hc7 h => ?_)
 ·refine .r fun K18 k18 => ?_
  obtain ⟨x8, hx8, h⟩ := ob h
  refine aG (l := p0.kids) (f := aN) (cs := [.i ((x8).op), .str ((x8).name), .i ((x8).n), .i (((x8).ty).kind), .str (((x8).ty).name), aH (((x8).ty).kids), aZ ((x8).kids)]) hx8 (aS x8) rfl ?_
  obtain ⟨x9, hx9, h⟩ := ob h
  refine aj (qbg _ _ hx9) aM (.cons (.same _) .nil) (fun g => by simp) (fun g => rfl) ?_
  obtain ⟨x10, hx10, h⟩ := ob h
  refine dV hx10 (k18 _ _ ?_)
  refine .ret ?_
  obtain rfl := sj h
  exact hQ _ _ _ rp
 refine .r fun K19 k19 => (k19 _ _ ?_)
 refine .ak rfl h (fun hc8 h => ?_) (fun hc8 h => ?_)
 ·refine .r fun K20 k20 => ?_
  obtain ⟨x11, hx11, h⟩ := ob h
  refine dV hx11 ?_
  obtain ⟨x12, hx12, h⟩ := ob h
  refine dV hx12 ?_
  obtain ⟨x13, hx13, h⟩ := ob h
  refine aG (l := p0.kids) (f := aN) (cs := [.i ((x13).op), .str ((x13).name), .i ((x13).n), .i (((x13).ty).kind), .str (((x13).ty).name), aH (((x13).ty).kids), aZ ((x13).kids)]) hx13 (aS x13) rfl ?_
  obtain ⟨x14, hx14, h⟩ := ob h
  refine aj (qbg _ _ hx14) aM (.cons (.same _) .nil) (fun g => by simp) (fun g => rfl) ?_
  obtain ⟨x15, hx15, h⟩ := ob h
  refine dV hx15 ?_
  obtain ⟨x16, hx16, h⟩ := ob h
  refine dV hx16 ?_
  obtain ⟨x17, hx17, h⟩ := ob h
  refine aG (l := p0.kids) (f := aN) (cs := [.i ((x17).op), .str ((x17).name), .i ((x17).n), .i (((x17).ty).kind), .str (((x17).ty).name), aH (((x17).ty).kids), aZ ((x17).kids)]) hx17 (aS x17) rfl ?_
  obtain ⟨x18, hx18, h⟩ := ob h
  refine aj (qbt _ _ hx18) aM (.cons (.same _) .nil) (fun g => by simp) (fun g => rfl) ?_
  obtain ⟨x19, hx19, h⟩ := ob h
  refine dV hx19 (⟨rfl, ?_⟩)
  refine k20 _ _ (.ret ?_)
  obtain rfl := sj h
  exact hQ _ _ _ rp
 refine .r fun K21 k21 => (k21 _ _ ?_)
 refine .ak rfl h (fun hc9 h => ?_) (fun hc9 h => ?_)
 ·refine .r fun K22 k22 => ?_
  obtain ⟨x20, hx20, h⟩ := ob h
  refine dV hx20 ?_
  obtain ⟨x21, hx21, h⟩ := ob h
  refine dV hx21 ?_
  obtain ⟨x22, hx22, h⟩ := ob h
  refine aG (l := p0.kids) (f := aN) (cs := [.i ((x22).op), .str ((x22).name), .i ((x22).n), .i (((x22).ty).kind), .str (((x22).ty).name), aH (((x22).ty).kids), aZ ((x22).kids)]) hx22 (aS x22) rfl ?_
  obtain ⟨x23, hx23, h⟩ := ob h
  refine aj (qbg _ _ hx23) aM (.cons (.same _) .nil) (fun g => by simp) (fun g => rfl) ?_
  obtain ⟨x24, hx24, h⟩ := ob h
  refine dV hx24 ?_
  obtain ⟨x25, hx25, h⟩ := ob h
  refine dV hx25 ?_
  obtain ⟨x26, hx26, h⟩ := ob h
  refine aG (l := p0.kids) (f := aN) (cs := [.i ((x26).op), .str ((x26).name), .i ((x26).n), .i (((x26).ty).kind), .str (((x26).ty).name), aH (((x26).ty).kids), aZ ((x26).kids)]) hx26 (aS x26) rfl ?_
  obtain ⟨x27, hx27, h⟩ := ob h
  refine aj (qbt _ _ hx27) aM (.cons (.same _) .nil) (fun g => by simp) (fun g => rfl) ?_
  obtain ⟨x28, hx28, h⟩ := ob h
  refine dV hx28 (⟨rfl, ?_⟩)
  refine k22 _ _ (.ret ?_)
  obtain rfl := sj h
  exact hQ _ _ _ rp
 refine .r fun K23 k23 => (k23 _ _ ?_)
 refine .ak rfl h (fun hc10 h => ?_) (fun hc10 h => ?_)
 ·refine .r fun K24 k24 => ?_
  obtain ⟨x29, hx29, h⟩ := ob h
  refine dV hx29 ?_
  obtain ⟨x30, hx30, h⟩ := ob h
  refine dV hx30 ?_
  obtain ⟨x31, hx31, h⟩ := ob h
  refine aG (l := p0.kids) (f := aN) (cs := [.i ((x31).op), .str ((x31).name), .i ((x31).n), .i (((x31).ty).kind), .str (((x31).ty).name), aH (((x31).ty).kids), aZ ((x31).kids)]) hx31 (aS x31) rfl ?_
  obtain ⟨x32, hx32, h⟩ := ob h
  refine aj (qbg _ _ hx32) aM (.cons (.same _) .nil) (fun g => by simp) (fun g => rfl) ?_
  obtain ⟨x33, hx33, h⟩ := ob h
  refine dV hx33 ?_
  obtain ⟨x34, hx34, h⟩ := ob h
  refine dV hx34 ?_
  obtain ⟨x35, hx35, h⟩ := ob h
  refine aG (l := p0.kids) (f := aN) (cs := [.i ((x35).op), .str ((x35).name), .i ((x35).n), .i (((x35).ty).kind), .str (((x35).ty).name), aH (((x35).ty).kids), aZ ((x35).kids)]) hx35 (aS x35) rfl ?_
  obtain ⟨x36, hx36, h⟩ := ob h
  refine aj (qbt _ _ hx36) aM (.cons (.same _) .nil) (fun g => by simp) (fun g => rfl) ?_
  obtain ⟨x37, hx37, h⟩ := ob h
  refine dV hx37 (⟨rfl, ?_⟩)
  refine k24 _ _ (.ret ?_)
  obtain rfl := sj h
  exact hQ _ _ _ rp
 refine .r fun K25 k25 => (k25 _ _ ?_)
 refine .ak rfl h (fun hc11 h => ?_) (fun hc11 h => ?_)
 ·refine .r fun K26 k26 => ?_
  obtain ⟨x38, hx38, h⟩ := ob h
  refine dV hx38 ?_
  obtain ⟨x39, hx39, h⟩ := ob h
  refine dV hx39 ?_
  obtain ⟨x40, hx40, h⟩ := ob h
  refine aG (l := p0.kids) (f := aN) (cs := [.i ((x40).op), .str ((x40).name), .i ((x40).n), .i (((x40).ty).kind), .str (((x40).ty).name), aH (((x40).ty).kids), aZ ((x40).kids)]) hx40 (aS x40) rfl ?_
  obtain ⟨x41, hx41, h⟩ := ob h
  refine aj (qbg _ _ hx41) aM (.cons (.same _) .nil) (fun g => by simp) (fun g => rfl) ?_
  obtain ⟨x42, hx42, h⟩ := ob h
  refine dV hx42 ?_
  obtain ⟨x43, hx43, h⟩ := ob h
  refine dV hx43 ?_
  obtain ⟨x44, hx44, h⟩ := ob h
  refine aG (l := p0.kids) (f := aN) (cs := [.i ((x44).op), .str ((x44).name), .i ((x44).n), .i (((x44).ty).kind), .str (((x44).ty).name), aH (((x44).ty).kids), aZ ((x44).kids)]) hx44 (aS x44) rfl ?_
  obtain ⟨x45, hx45, h⟩ := ob h
  refine aj (qbt _ _ hx45) aM (.cons (.same _) .nil) (fun g => by simp) (fun g => rfl) ?_
  obtain ⟨x46, hx46, h⟩ := ob h
  refine dV hx46 ?_
  obtain ⟨x47, hx47, h⟩ := ob h
  refine dV hx47 (⟨rfl, ?_⟩)
  refine k26 _ _ (.ret ?_)
  obtain rfl := sj h
  exact hQ _ _ _ rp
 refine .r fun K27 k27 => (k27 _ _ ?_)
 refine .ak rfl h (fun hc12 h => ?_) (fun hc12 h => ?_)
 ·refine .r fun K28 k28 => ?_
  obtain ⟨x48, hx48, h⟩ := ob h
  refine aG (l := p0.kids) (f := aN) (cs := [.i ((x48).op), .str ((x48).name), .i ((x48).n), .i (((x48).ty).kind), .str (((x48).ty).name), aH (((x48).ty).kids), aZ ((x48).kids)]) hx48 (aS x48) rfl ?_
  obtain ⟨x49, hx49, h⟩ := ob h
  refine aj (qbg _ _ hx49) aM (.cons (.same _) .nil) (fun g => by simp) (fun g => rfl) ?_
  obtain ⟨x50, hx50, h⟩ := ob h
  refine dV hx50 ?_
  obtain ⟨x51, hx51, h⟩ := ob h
  refine aG (l := p0.kids) (f := aN) (cs := [.i ((x51).op), .str ((x51).name), .i ((x51).n), .i (((x51).ty).kind), .str (((x51).ty).name), aH (((x51).ty).kids), aZ ((x51).kids)]) hx51 (aS x51) rfl ?_
  obtain ⟨x52, hx52, h⟩ := ob h
  refine aj (qbt _ _ hx52) aM (.cons (.same _) .nil) (fun g => by simp) (fun g => rfl) ?_
  obtain ⟨x53, hx53, h⟩ := ob h
  refine dV hx53 ?_
  obtain ⟨x54, hx54, h⟩ := ob h
  refine dV hx54 (⟨rfl, ?_⟩)
  refine k28 _ _ (.ret ?_)
  obtain rfl := sj h
  exact hQ _ _ _ rp
 refine .r fun K29 k29 => (k29 _ _ ?_)
 refine .ak rfl h (fun hc13 h => ?_) (fun hc13 h => ?_)
 ·refine .r fun K30 k30 => ?_
  obtain ⟨x55, hx55, h⟩ := ob h
  refine aG (l := p0.kids) (f := aN) (cs := [.i ((x55).op), .str ((x55).name), .i ((x55).n), .i (((x55).ty).kind), .str (((x55).ty).name), aH (((x55).ty).kids), aZ ((x55).kids)]) hx55 (aS x55) rfl ?_
  obtain ⟨x56, hx56, h⟩ := ob h
  refine aj (qbg _ _ hx56) aM (.cons (.same _) .nil) (fun g => by simp) (fun g => rfl) ?_
  obtain ⟨x57, hx57, h⟩ := ob h
  refine dV hx57 ?_
  obtain ⟨x58, hx58, h⟩ := ob h
  refine aG (l := p0.kids) (f := aN) (cs := [.i ((x58).op), .str ((x58).name), .i ((x58).n), .i (((x58).ty).kind), .str (((x58).ty).name), aH (((x58).ty).kids), aZ ((x58).kids)]) hx58 (aS x58) rfl ?_
  obtain ⟨x59, hx59, h⟩ := ob h
  refine aj (qbt _ _ hx59) aM (.cons (.same _) .nil) (fun g => by simp) (fun g => rfl) ?_
  obtain ⟨x60, hx60, h⟩ := ob h
  refine dV hx60 ?_
  obtain ⟨x61, hx61, h⟩ := ob h
  refine dV hx61 (⟨rfl, ?_⟩)
  refine k30 _ _ (.ret ?_)
  obtain rfl := sj h
  exact hQ _ _ _ rp
 refine .r fun K31 k31 => (k31 _ _ ?_)
 refine .ak rfl h (fun hc14 h => ?_) (fun hc14 h => ?_)
 ·refine .r fun K32 k32 => ?_
  obtain ⟨x62, hx62, h⟩ := ob h
  refine aG (l := p0.kids) (f := aN) (cs := [.i ((x62).op), .str ((x62).name), .i ((x62).n), .i (((x62).ty).kind), .str (((x62).ty).name), aH (((x62).ty).kids), aZ ((x62).kids)]) hx62 (aS x62) rfl ?_
  obtain ⟨x63, hx63, h⟩ := ob h
  refine aj (qbg _ _ hx63) aM (.cons (.same _) .nil) (fun g => by simp) (fun g => rfl) ?_
  obtain ⟨x64, hx64, h⟩ := ob h
  refine dV hx64 (k32 _ _ ?_)
  refine .ret ?_
  obtain rfl := sj h
  exact hQ _ _ _ rp
 refine .r fun K33 k33 => (k33 _ _ ?_)
 refine .ak rfl h (fun hc15 h => ?_) (fun hc15 h => ?_)
 ·refine .r fun K34 k34 => (k34 _ _ ?_)
  refine .q fun K35 k35 => .r fun K36 k36 => (k36 _ _ ?_)
  refine .block ?_
  obtain ⟨o1, ho1, h⟩ := ob h
  have hR1 : ∀ s2 : Str, o1 = .nx s2 → ∀ t9 h9, Le 0 t9 h9 (u4 (.str s2 :: (u64 (u64 (u64 (u4 (u2 []))))))) [] → K35 t9 h9 := by
   intro s2 ho
   subst ho
   dsimp only [LR.el] at h
   intro t9 h9 hw
   refine k35 _ _ (AW.le hw ?_)
   refine .r fun K37 k37 => ?_
   obtain ⟨x65, hx65, h⟩ := ob h
   refine dV hx65 (k37 _ _ ?_)
   refine .ret ?_
   obtain rfl := sj h
   exact hQ _ _ _ rp
  refine .loopS (Dk n qdk qc7 p0) (fun (s1 : Str × Int) => (u2 (.unk :: (aZ p0.kids :: (.str s1.1 :: (.i s1.2 :: (u64 (u64 (u64 (u4 (.unk :: []))))))))))) (fun (s1 : Str × Int) => []) ho1 (fun _ => rfl) (wk [] (.u2 (.u (.e aK (.c2 (.u64 (.u64 (.u64 (.u4 (.u .nil))))))))) .nil rfl) ?_
  intro n1 s1 hs1 KL1 hKL1
  unfold Dk at hs1
  refine .q fun K38 k38 => .r fun K39 k39 => (aV (l := p0.kids) (f := aN) ?_)
  refine k39 _ _ (.ak rfl hs1 (fun hc16 hs1 => ?_) (fun hc16 hs1 => ?_))
  ·refine .skip (k38 _ _ ?_)
   refine .q fun K40 k40 => (.block ?_)
   refine .q fun K41 k41 => ?_
   obtain ⟨s3, hj1, hs1⟩ := ob hs1
   have hR2 : ∀ t9 h9, Le 0 t9 h9 (u2 (.unk :: (aZ p0.kids :: (.str s3 :: (.i s1.2 :: (u64 (u64 (u64 (u4 (.unk :: [])))))))))) [] → K41 t9 h9 := by
    intro t9 h9 hw
    refine k41 _ _ (AW.le hw ?_)
    clear hw
    refine rg 0 ?_
    obtain ⟨x66, hx66, hs1⟩ := ob hs1
    refine aG (l := p0.kids) (f := aN) (cs := [.i ((x66).op), .str ((x66).name), .i ((x66).n), .i (((x66).ty).kind), .str (((x66).ty).name), aH (((x66).ty).kids), aZ ((x66).kids)]) hx66 (aS x66) rfl ?_
    obtain ⟨x67, hx67, hs1⟩ := ob hs1
    refine aj (qbt _ _ hx67) aM (.cons (.same _) .nil) (fun g => by simp) (fun g => rfl) ?_
    obtain ⟨x68, hx68, hs1⟩ := ob hs1
    refine dV hx68 (k40 _ _ ?_)
    refine .know 5 0 fun hv1 => (.know 3 0 fun hv2 => ?_)
    refine rg 0 (⟨(s1.2 + 1), by have := dz hv1; have := fG hv2; have h8 := of_decide_eq_true hc16; exact bC (by omega) (by omega), ?_⟩)
    exact hKL1 _ _ _ hs1 (li (.u2 (.u (.s (.s (.s (.u16 (.u16 (.u16 (.u16 (.u16 (.u16 (.u16 (.u16 (.u16 (.u16 (.u16 (.u16 (.u4 (.u .n))))))))))))))))))))
   refine .r fun K42 k42 => (k42 _ _ ?_)
   refine .ak rfl hj1 (fun hc17 hj1 => ?_) (fun hc17 hj1 => ?_)
   ·refine rg 0 ?_
    obtain ⟨x69, hx69, hj1⟩ := ob hj1
    refine dV hx69 ?_
    cases hj1
    exact hR2 _ _ (li (.u2 (.u (.s (.s (.s (.u16 (.u16 (.u16 (.u16 (.u16 (.u16 (.u16 (.u16 (.u16 (.u16 (.u16 (.u16 (.u4 (.u .n))))))))))))))))))))
   refine .skip ?_
   cases hj1
   exact hR2 _ _ (li (.u2 (.u (.s (.s (.s (.u16 (.u16 (.u16 (.u16 (.u16 (.u16 (.u16 (.u16 (.u16 (.u16 (.u16 (.u16 (.u4 (.u .n))))))))))))))))))))
  refine .exit ?_
  exact hR1 _ (sj hs1).symm _ _ (li (.u4 (.s (.u16 (.u16 (.u16 (.u16 (.u16 (.u16 (.u16 (.u16 (.u16 (.u16 (.u16 (.u16 (.u4 (.u2 .n)))))))))))))))))
 refine .skip (k3 _ _ ?_)
 refine .q fun K43 k43 => .q fun K44 k44 => ?_
 obtain ⟨s4, hj2, h⟩ := ob h
 have hR3 : ∀ t9 h9, Le 0 t9 h9 (.unk :: (.ptr 0 0 :: (.unk :: (aZ p0.kids :: (u64 (u64 (u32 (u8 (u2 (.bool s4 :: (u16 (u8 (u4 []))))))))))))) [.box [.i p0.op, .str p0.name, .i p0.n, .i p0.ty.kind, .str p0.ty.name, aH p0.ty.kids, aZ p0.kids]] → K44 t9 h9 := by
  intro t9 h9 hw
  refine k44 _ _ (AW.le hw ?_)
  clear hw
  refine .ak rfl h (fun hc18 h => ?_) (fun hc18 h => ?_)
  ·refine .r1 fun K45 k45 => (⟨List.map encS ([([80, 79, 87] : Str), ([99, 97, 114, 100] : Str), ([109, 105, 110] : Str), ([109, 97, 120] : Str), ([100, 111, 109] : Str), ([114, 97, 110] : Str)]), by kernel_rfl, ?_⟩)
   refine ⟨(IntKind.wrap .i64 (p0.op - 46)), rfl, ?_⟩
   obtain ⟨x70, hx70, h⟩ := ob h
   refine aG (l := [([80, 79, 87] : Str), ([99, 97, 114, 100] : Str), ([109, 105, 110] : Str), ([109, 97, 120] : Str), ([100, 111, 109] : Str), ([114, 97, 110] : Str)]) (f := encS) (cs := [.str (x70)]) hx70 (rfl) rfl ?_
   obtain ⟨x71, hx71, h⟩ := ob h
   refine dV hx71 ?_
   obtain ⟨x72, hx72, h⟩ := ob h
   refine aG (l := p0.kids) (f := aN) (cs := [.i ((x72).op), .str ((x72).name), .i ((x72).n), .i (((x72).ty).kind), .str (((x72).ty).name), aH (((x72).ty).kids), aZ ((x72).kids)]) hx72 (aS x72) rfl ?_
   obtain ⟨x73, hx73, h⟩ := ob h
   refine aj (qbt _ _ hx73) aM (.cons (.same _) .nil) (fun g => by simp) (fun g => rfl) ?_
   obtain ⟨x74, hx74, h⟩ := ob h
   refine dV hx74 ?_
   obtain ⟨x75, hx75, h⟩ := ob h
   refine dV hx75 (⟨rfl, ?_⟩)
   refine k45 _ _ (.ret ?_)
   obtain rfl := sj h
   exact hQ _ _ _ rp
  refine .skip (k43 _ _ ?_)
  refine .r fun K46 k46 => ?_
  obtain ⟨x76, hx76, h⟩ := ob h
  refine aG (l := p0.kids) (f := aN) (cs := [.i ((x76).op), .str ((x76).name), .i ((x76).n), .i (((x76).ty).kind), .str (((x76).ty).name), aH (((x76).ty).kids), aZ ((x76).kids)]) hx76 (aS x76) rfl ?_
  obtain ⟨x77, hx77, h⟩ := ob h
  refine aj (qbg _ _ hx77) aM (.cons (.same _) .nil) (fun g => by simp) (fun g => rfl) ?_
  obtain ⟨x78, hx78, h⟩ := ob h
  refine dV hx78 ?_
  obtain ⟨x79, hx79, h⟩ := ob h
  refine aj (TG _ _ _ hx79) aM (.cons (.same _) .nil) (fun g => rfl) (fun g => rfl) ?_
  obtain ⟨x80, hx80, h⟩ := ob h
  refine dV hx80 ?_
  obtain ⟨x81, hx81, h⟩ := ob h
  refine dV hx81 ?_
  obtain ⟨x82, hx82, h⟩ := ob h
  refine aG (l := p0.kids) (f := aN) (cs := [.i ((x82).op), .str ((x82).name), .i ((x82).n), .i (((x82).ty).kind), .str (((x82).ty).name), aH (((x82).ty).kids), aZ ((x82).kids)]) hx82 (aS x82) rfl ?_
  obtain ⟨x83, hx83, h⟩ := ob h
  refine aj (qbg _ _ hx83) aM (.cons (.same _) .nil) (fun g => by simp) (fun g => rfl) ?_
  obtain ⟨x84, hx84, h⟩ := ob h
  refine dV hx84 (⟨rfl, ?_⟩)
  refine k46 _ _ (.ret ?_)
  obtain rfl := sj h
  exact hQ _ _ _ rp
 refine rg 0 (aD hj2 (fun hc19 hj2 => ?_) (fun hc19 hj2 => ?_))
 ·cases hj2
  exact hR3 _ _ (li (.u (.s (.u (.s (.u16 (.u16 (.u16 (.u16 (.u16 (.u16 (.u16 (.u16 (.u16 (.u16 (.u8 (.u2 (.s (.u16 (.u8 (.u4 .n)))))))))))))))))))))
 cases hj2
 exact hR3 _ _ (li (.u (.s (.u (.s (.u16 (.u16 (.u16 (.u16 (.u16 (.u16 (.u16 (.u16 (.u16 (.u16 (.u8 (.u2 (.s (.u16 (.u8 (.u4 .n)))))))))))))))))))))
theorem WG (n : Nat) (qdk : Tm → Option Str) (qc7 : Tm → Option Str) (qbt : qaw qdk) (qbg : qai qc7) (p0 : Tm) (r : Str) (h : tV n qdk qc7 p0 = some r) : aB Tryz.prog 164 [bD p0] [] (.str r) [] := by
 unfold tV at h
 refine ah true Tryz.func164 rfl (nt Tryz.ntmps164 rfl) fun Q hQ t ht => ?_
 conv at ht => whnf
 subst ht
 refine .r1 fun K1 k1 => (k1 _ _ ?_)
 refine .q fun K2 k2 => .r fun K3 k3 => ?_
 obtain ⟨x1, hx1, h⟩ := ob h
 refine aj (adE _ _ _ hx1) aM (.cons (.same _) .nil) (fun g => by simp) (fun g => rfl) (k3 _ _ ?_)
 refine .ak rfl h (fun hc1 h => ?_) (fun hc1 h => ?_)
 ·refine .r fun K4 k4 => ?_
  obtain ⟨x2, hx2, h⟩ := ob h
  refine aj (qbt _ _ hx2) aM (.cons (.same _) .nil) (fun g => by simp) (fun g => rfl) ?_
  obtain ⟨x3, hx3, h⟩ := ob h
  refine dV hx3 ?_
  obtain ⟨x4, hx4, h⟩ := ob h
  refine dV hx4 (k4 _ _ ?_)
  refine .ret ?_
  obtain rfl := sj h
  exact hQ _ _ _ rp
 refine .skip (k2 _ _ ?_)
 refine .r fun K5 k5 => ?_
 obtain ⟨x5, hx5, h⟩ := ob h
 refine aj (qbt _ _ hx5) aM (.cons (.same _) .nil) (fun g => by simp) (fun g => rfl) (k5 _ _ ?_)
 refine .ret ?_
 obtain rfl := sj h
 exact hQ _ _ _ rp
theorem Yk (n : Nat) : qaw (nk n) ∧ qai (jy n) := by
 induction n with
 | zero => exact ⟨(fun p0 r h => by unfold nk at h; cases h), (fun p0 r h => by unfold jy at h; cases h)⟩
 | succ n ih =>
  exact ⟨(fun p0 r h => abo n _ _ ih.1 ih.2 p0 r (by unfold nk at h; exact h)), (fun p0 r h => WG n _ _ ih.1 ih.2 p0 r (by unfold jy at h; exact h))⟩
theorem amY (n : Nat) : qaw (nk n) := (Yk n).1
theorem Ua (n : Nat) (p0 : Tm) (r : Str) (h : FJ n p0 = some r) : aB Tryz.prog 30 [bD p0] [] (.str r) [] := by
 unfold FJ at h
 refine ah true Tryz.func30 rfl (nt Tryz.ntmps30 rfl) fun Q hQ t ht => ?_
 conv at ht => whnf
 subst ht
 refine .r1 fun K1 k1 => (k1 _ _ ?_)
 refine .q fun K2 k2 => .r fun K3 k3 => ?_
 obtain ⟨x1, hx1, h⟩ := ob h
 refine aj (iK _ _ _ hx1) aM (.cons (.same _) .nil) (fun g => by simp) (fun g => rfl) (k3 _ _ ?_)
 refine .ak rfl h (fun hc1 h => ?_) (fun hc1 h => ?_)
 ·refine .r fun K4 k4 => (k4 _ _ ?_)
  refine .ret ?_
  obtain rfl := sj h
  exact hQ _ _ _ rp
 refine .skip (k2 _ _ ?_)
 refine .r fun K5 k5 => ?_
 obtain ⟨x2, hx2, h⟩ := ob h
 refine aj (amY _ _ _ hx2) aM (.cons (.same _) .nil) (fun g => by simp) (fun g => rfl) (k5 _ _ ?_)
 refine .ret ?_
 obtain rfl := sj h
 exact hQ _ _ _ rp
theorem afk (n : Nat) (p0 : Tm) (r : Bool) (h : Ei n p0 = some r) : aB Tryz.prog 28 [bD p0] [] (.bool r) [] := by
 unfold Ei at h
 refine ah true Tryz.func28 rfl (nt Tryz.ntmps28 rfl) fun Q hQ t ht => ?_
 conv at ht => whnf
 subst ht
 refine .r1 fun K1 k1 => (k1 _ _ ?_)
 refine .r fun K2 k2 => ?_
 obtain ⟨x1, hx1, h⟩ := ob h
 refine aj (Ua _ _ _ hx1) aM (.cons (.same _) .nil) (fun g => by simp) (fun g => rfl) (k2 _ _ ?_)
 refine .r fun K3 k3 => (k3 _ _ ?_)
 refine .q fun K4 k4 => .r fun K5 k5 => (k5 _ _ ?_)
 refine .block ?_
 obtain ⟨o1, ho1, h⟩ := ob h
 have hR1 : ∀ s2 : Int, o1 = .nx s2 → ∀ t9 h9, Le 0 t9 h9 (.unk :: (.ptr 0 0 :: (.unk :: (.str x1 :: (.unk :: (.i s2 :: (u32 (u16 (u8 (u2 (.unk :: []))))))))))) [.box [.i p0.op, .str p0.name, .i p0.n, .i p0.ty.kind, .str p0.ty.name, aH p0.ty.kids, aZ p0.kids]] → K4 t9 h9 := by
  intro s2 ho
  subst ho
  dsimp only [LR.el] at h
  intro t9 h9 hw
  refine k4 _ _ (AW.le hw ?_)
  refine .q fun K6 k6 => ?_
  obtain ⟨s3, hj1, h⟩ := ob h
  have hR2 : ∀ t9 h9, Le 0 t9 h9 (u2 (.bool s3 :: (u32 (u16 (u8 (u4 (u2 []))))))) [] → K6 t9 h9 := by
   intro t9 h9 hw
   refine k6 _ _ (AW.le hw ?_)
   clear hw
   refine .ret ?_
   obtain rfl := sj h
   exact hQ _ _ _ rp
  refine rg 0 ?_
  obtain ⟨x2, hx2, hj1⟩ := ob hj1
  refine aj (iK _ _ _ hx2) aM (.cons (.same _) .nil) (fun g => by simp) (fun g => rfl) (aD hj1 (fun hc1 hj1 => ?_) (fun hc1 hj1 => ?_))
  ·refine aD hj1 (fun hc2 hj1 => ?_) (fun hc2 hj1 => ?_)
   ·cases hj1
    exact hR2 _ _ (wk [] (.u2 (.c rfl (.u32 (.u16 (.u8 (.u4 (.u2 .nil))))))) .nil rfl)
   cases hj1
   exact hR2 _ _ (wk [] (.u2 (.c rfl (.u32 (.u16 (.u8 (.u4 (.u2 .nil))))))) .nil rfl)
  cases hj1
  exact hR2 _ _ (wk [] (.u2 (.c rfl (.u32 (.u16 (.u8 (.u4 (.u2 .nil))))))) .nil rfl)
 refine .loopS (mI n x1) (fun (s1 : Int × Int × Int) => (.unk :: (.ptr 0 0 :: (.unk :: (.str x1 :: (.i s1.1 :: (.i s1.2.1 :: (.i s1.2.2 :: (u32 (u16 (u8 (u2 [])))))))))))) (fun (s1 : Int × Int × Int) => [.box [.i p0.op, .str p0.name, .i p0.n, .i p0.ty.kind, .str p0.ty.name, aH p0.ty.kids, aZ p0.kids]]) ho1 (fun _ => rfl) (li (.u (.s (.u (.s (.s (.s (.s (.u16 (.u16 (.u16 (.u8 (.u2 .n))))))))))))) ?_
 intro n1 s1 hs1 KL1 hKL1
 unfold mI at hs1
 refine .q fun K7 k7 => .r fun K8 k8 => (k8 _ _ ?_)
 refine .ak rfl hs1 (fun hc3 hs1 => ?_) (fun hc3 hs1 => ?_)
 ·refine .skip (k7 _ _ ?_)
  refine .q fun K9 k9 => ?_
  obtain ⟨s4, hj2, hs1⟩ := ob hs1
  have hR3 : ∀ t9 h9, Le 0 t9 h9 (.unk :: (.ptr 0 0 :: (.unk :: (.str x1 :: (.i s4.1 :: (.i s4.2 :: (.i s1.2.2 :: (u32 (u16 (u8 (u2 []))))))))))) [.box [.i p0.op, .str p0.name, .i p0.n, .i p0.ty.kind, .str p0.ty.name, aH p0.ty.kids, aZ p0.kids]] → K9 t9 h9 := by
   intro t9 h9 hw
   refine k9 _ _ (AW.le hw ?_)
   clear hw
   refine .know 6 0 fun hv1 => (.know 3 0 fun hv2 => ?_)
   refine rg 0 (⟨(s1.2.2 + 1), by have := dz hv1; have := vfs hv2; have h8 := of_decide_eq_true hc3; exact bC (by omega) (by omega), ?_⟩)
   exact hKL1 _ _ _ hs1 (li (.u (.s (.u (.s (.s (.s (.s (.u16 (.u16 (.u16 (.u8 (.u2 .n)))))))))))))
  refine .block (.q fun K10 k10 => ?_)
  obtain ⟨s5, hj3, hj2⟩ := ob hj2
  have hR4 : ∀ t9 h9, Le 0 t9 h9 (.unk :: (.ptr 0 0 :: (.unk :: (.str x1 :: (.i s5.1 :: (.i s5.2 :: (.i s1.2.2 :: (u32 (u16 (u8 (u2 []))))))))))) [.box [.i p0.op, .str p0.name, .i p0.n, .i p0.ty.kind, .str p0.ty.name, aH p0.ty.kids, aZ p0.kids]] → K10 t9 h9 := by
   intro t9 h9 hw
   refine k10 _ _ (AW.le hw ?_)
   clear hw
   refine .q fun K11 k11 => ?_
   obtain ⟨s6, hj4, hj2⟩ := ob hj2
   have hR5 : ∀ t9 h9, Le 0 t9 h9 (.unk :: (.ptr 0 0 :: (.unk :: (.str x1 :: (.i s5.1 :: (.i s5.2 :: (.i s1.2.2 :: (u32 (u8 (u4 (.bool s6 :: (u8 (u4 (.unk :: [])))))))))))))) [.box [.i p0.op, .str p0.name, .i p0.n, .i p0.ty.kind, .str p0.ty.name, aH p0.ty.kids, aZ p0.kids]] → K11 t9 h9 := by
    intro t9 h9 hw
    refine k11 _ _ (AW.le hw ?_)
    clear hw
    refine .ak rfl hj2 (fun hc4 hj2 => ?_) (fun hc4 hj2 => ?_)
    ·refine .know 4 0 fun hv3 => (rg 0 ?_)
     refine ⟨(IntKind.wrap .i64 (s5.1 - 1)), rfl, ?_⟩
     cases hj2
     exact hR3 _ _ (li (.u (.s (.u (.s (.s (.s (.s (.u16 (.u16 (.u16 (.u8 (.u2 .n)))))))))))))
    refine .skip ?_
    cases hj2
    exact hR3 _ _ (li (.u (.s (.u (.s (.s (.s (.s (.u16 (.u16 (.u16 (.u8 (.u2 .n)))))))))))))
   refine rg 0 ?_
   obtain ⟨x3, hx3, hj4⟩ := ob hj4
   refine je hx3 (aD hj4 (fun hc5 hj4 => ?_) (fun hc5 hj4 => ?_))
   ·cases hj4
    exact hR5 _ _ (li (.u (.s (.u (.s (.s (.s (.s (.u16 (.u16 (.u8 (.u4 (.s (.u8 (.u4 (.u .n))))))))))))))))
   obtain ⟨x4, hx4, hj4⟩ := ob hj4
   refine je hx4 (aD hj4 (fun hc6 hj4 => ?_) (fun hc6 hj4 => ?_))
   ·cases hj4
    exact hR5 _ _ (li (.u (.s (.u (.s (.s (.s (.s (.u16 (.u16 (.u8 (.u4 (.s (.u8 (.u4 (.u .n))))))))))))))))
   obtain ⟨x5, hx5, hj4⟩ := ob hj4
   refine je hx5 ?_
   cases hj4
   exact hR5 _ _ (li (.u (.s (.u (.s (.s (.s (.s (.u16 (.u16 (.u8 (.u4 (.s (.u8 (.u4 (.u .n))))))))))))))))
  refine .q fun K12 k12 => ?_
  obtain ⟨s7, hj5, hj3⟩ := ob hj3
  have hR6 : ∀ t9 h9, Le 0 t9 h9 (.unk :: (.ptr 0 0 :: (.unk :: (.str x1 :: (.i s1.1 :: (.i s1.2.1 :: (.i s1.2.2 :: (u16 (u4 (u2 (.unk :: (.bool s7 :: (u32 (u2 [])))))))))))))) [.box [.i p0.op, .str p0.name, .i p0.n, .i p0.ty.kind, .str p0.ty.name, aH p0.ty.kids, aZ p0.kids]] → K12 t9 h9 := by
   intro t9 h9 hw
   refine k12 _ _ (AW.le hw ?_)
   clear hw
   refine .ak rfl hj3 (fun hc7 hj3 => ?_) (fun hc7 hj3 => ?_)
   ·refine .r fun K13 k13 => (⟨(IntKind.wrap .i64 (s1.1 + 1)), rfl, ?_⟩)
    refine k13 _ _ (rg 0 ?_)
    cases hj3
    exact hR4 _ _ (li (.u (.s (.u (.s (.s (.s (.s (.u16 (.u16 (.u16 (.u8 (.u2 .n)))))))))))))
   refine .skip ?_
   cases hj3
   exact hR4 _ _ (li (.u (.s (.u (.s (.s (.s (.s (.u16 (.u16 (.u16 (.u8 (.u2 .n)))))))))))))
  refine rg 0 ?_
  obtain ⟨x6, hx6, hj5⟩ := ob hj5
  refine je hx6 (aD hj5 (fun hc8 hj5 => ?_) (fun hc8 hj5 => ?_))
  ·cases hj5
   exact hR6 _ _ (li (.u (.s (.u (.s (.s (.s (.s (.u16 (.u4 (.u2 (.u (.s (.u16 (.u16 (.u2 .n))))))))))))))))
  obtain ⟨x7, hx7, hj5⟩ := ob hj5
  refine je hx7 (aD hj5 (fun hc9 hj5 => ?_) (fun hc9 hj5 => ?_))
  ·cases hj5
   exact hR6 _ _ (li (.u (.s (.u (.s (.s (.s (.s (.u16 (.u4 (.u2 (.u (.s (.u16 (.u16 (.u2 .n))))))))))))))))
  obtain ⟨x8, hx8, hj5⟩ := ob hj5
  refine je hx8 ?_
  cases hj5
  exact hR6 _ _ (li (.u (.s (.u (.s (.s (.s (.s (.u16 (.u4 (.u2 (.u (.s (.u16 (.u16 (.u2 .n))))))))))))))))
 refine .exit ?_
 exact hR1 _ (sj hs1).symm _ _ (li (.u (.s (.u (.s (.u (.s (.u16 (.u16 (.u16 (.u8 (.u2 (.u .n)))))))))))))
theorem amD (n : Nat) (p0 : Int) (r : Bool) (h : O9 n p0 = some r) : aB Tryz.prog 154 [.int .u8 p0] [] (.bool r) [] := by
 unfold O9 at h
 refine ah true Tryz.func154 rfl (nt Tryz.ntmps154 rfl) fun Q hQ t ht => ?_
 conv at ht => whnf
 subst ht
 refine .r fun K1 k1 => (k1 _ _ ?_)
 refine .q fun K2 k2 => ?_
 obtain ⟨s1, hj1, h⟩ := ob h
 have hR1 : ∀ t9 h9, Le 0 t9 h9 (u2 (.bool s1 :: (u8 (u2 [])))) [] → K2 t9 h9 := by
  intro t9 h9 hw
  refine k2 _ _ (AW.le hw ?_)
  clear hw
  refine .ret ?_
  obtain rfl := sj h
  exact hQ _ _ _ rp
 refine rg 0 ?_
 obtain ⟨x1, hx1, hj1⟩ := ob hj1
 refine aj (Aa _ _ _ hx1) aM (.cons (.same _) .nil) (fun g => rfl) (fun g => rfl) (aD hj1 (fun hc1 hj1 => ?_) (fun hc1 hj1 => ?_))
 ·cases hj1
  exact hR1 _ _ (li (.u2 (.s (.u8 (.u2 .n)))))
 obtain ⟨x2, hx2, hj1⟩ := ob hj1
 refine aj (BM _ _ _ hx2) aM (.cons (.same _) .nil) (fun g => rfl) (fun g => rfl) (aD hj1 (fun hc2 hj1 => ?_) (fun hc2 hj1 => ?_))
 ·cases hj1
  exact hR1 _ _ (li (.u2 (.s (.u8 (.u2 .n)))))
 cases hj1
 exact hR1 _ _ (li (.u2 (.s (.u8 (.u2 .n)))))
theorem SN (n : Nat) (p0 : Str) (r : Int) (h : FE n p0 = some r) : aB Tryz.prog 155 [.str p0] [] (.i r) [] := by
 unfold FE at h
 refine ah true Tryz.func155 rfl (nt Tryz.ntmps155 rfl) fun Q hQ t ht => ?_
 conv at ht => whnf
 subst ht
 refine .r fun K1 k1 => (k1 _ _ ?_)
 refine .q fun K2 k2 => .q fun K3 k3 => ?_
 obtain ⟨s1, hj1, h⟩ := ob h
 have hR1 : ∀ t9 h9, Le 0 t9 h9 (.str p0 :: (u16 (.bool s1 :: (u16 (u4 (u2 [])))))) [] → K3 t9 h9 := by
  intro t9 h9 hw
  refine k3 _ _ (AW.le hw ?_)
  clear hw
  refine .ak rfl h (fun hc1 h => ?_) (fun hc1 h => ?_)
  ·refine .r fun K4 k4 => (k4 _ _ ?_)
   refine .ret ?_
   obtain rfl := sj h
   exact hQ _ _ _ rp
  refine .skip (k2 _ _ ?_)
  refine .r fun K5 k5 => (k5 _ _ ?_)
  refine .q fun K6 k6 => .r fun K7 k7 => (k7 _ _ ?_)
  refine .block ?_
  obtain ⟨o1, ho1, h⟩ := ob h
  have hR2 : ∀ s3 : Int, o1 = .nx s3 → ∀ t9 h9, Le 0 t9 h9 (u2 (.unk :: (.i s3 :: (u32 (u4 []))))) [] → K6 t9 h9 := by
   intro s3 ho
   subst ho
   dsimp only [LR.el] at h
   intro t9 h9 hw
   refine k6 _ _ (AW.le hw ?_)
   refine .q fun K8 k8 => .r fun K9 k9 => (k9 _ _ ?_)
   refine .ak rfl h (fun hc2 h => ?_) (fun hc2 h => ?_)
   ·refine .r fun K10 k10 => (k10 _ _ ?_)
    refine .ret ?_
    obtain rfl := sj h
    exact hQ _ _ _ rp
   refine .skip (k8 _ _ ?_)
   refine .r fun K11 k11 => (k11 _ _ ?_)
   refine .ret ?_
   obtain rfl := sj h
   exact hQ _ _ _ rp
  refine .loopS (zC n p0) (fun (s2 : Int × Int) => (.str p0 :: (u2 (.i s2.1 :: (.i s2.2 :: (u32 (u2 (.unk :: [])))))))) (fun (s2 : Int × Int) => []) ho1 (fun _ => rfl) (li (.s (.u2 (.s (.s (.u16 (.u16 (.u2 (.u .n))))))))) ?_
  intro n1 s2 hs1 KL1 hKL1
  unfold zC at hs1
  refine .q fun K12 k12 => .r fun K13 k13 => (k13 _ _ ?_)
  refine .ak rfl hs1 (fun hc3 hs1 => ?_) (fun hc3 hs1 => ?_)
  ·refine .skip (k12 _ _ ?_)
   refine .q fun K14 k14 => (.block ?_)
   refine .q fun K15 k15 => .r fun K16 k16 => ?_
   obtain ⟨x1, hx1, hs1⟩ := ob hs1
   refine je hx1 ?_
   obtain ⟨x2, hx2, hs1⟩ := ob hs1
   refine aj (BM _ _ _ hx2) aM (.cons (.same _) .nil) (fun g => rfl) (fun g => rfl) (k16 _ _ ?_)
   refine .ak rfl hs1 (fun hc4 hs1 => ?_) (fun hc4 hs1 => ?_)
   ·refine .r fun K17 k17 => (k17 _ _ ?_)
    refine .ret ?_
    obtain rfl := sj hs1
    dsimp only [LR.el] at h
    obtain rfl := sj h
    exact hQ _ _ _ rp
   refine .skip (k15 _ _ ?_)
   refine rg 0 (⟨(IntKind.wrap .i64 (10 * s2.1)), rfl, ?_⟩)
   obtain ⟨x3, hx3, hs1⟩ := ob hs1
   refine je hx3 (⟨(IntKind.wrap .u8 (x3 - 48)), rfl, ?_⟩)
   refine ⟨(IntKind.wrap .i64 ((IntKind.wrap .i64 (10 * s2.1)) + (IntKind.wrap .i64 (IntKind.wrap .u8 (x3 - 48))))), rfl, ?_⟩
   refine k14 _ _ (.know 4 0 fun hv1 => ?_)
   refine .know 0 0 fun hv2 => (rg 0 ?_)
   refine ⟨(s2.2 + 1), by have := dz hv1; have := vfs hv2; have h8 := of_decide_eq_true hc3; exact bC (by omega) (by omega), ?_⟩
   exact hKL1 _ _ _ hs1 (li (.s (.u2 (.s (.s (.u16 (.u16 (.u2 (.u .n)))))))))
  refine .exit ?_
  exact hR2 _ (sj hs1).symm _ _ (li (.u2 (.u (.s (.u16 (.u16 (.u4 .n)))))))
 refine rg 0 (aD hj1 (fun hc5 hj1 => ?_) (fun hc5 hj1 => ?_))
 ·cases hj1
  exact hR1 _ _ (li (.s (.u16 (.s (.u16 (.u4 (.u2 .n)))))))
 refine aD hj1 (fun hc6 hj1 => ?_) (fun hc6 hj1 => ?_)
 ·obtain ⟨x4, hx4, hj1⟩ := ob hj1
  refine je hx4 ?_
  cases hj1
  exact hR1 _ _ (li (.s (.u16 (.s (.u16 (.u4 (.u2 .n)))))))
 cases hj1
 exact hR1 _ _ (li (.s (.u16 (.s (.u16 (.u4 (.u2 .n)))))))
theorem al0 (n : Nat) (p0 : Str) (p1 : Int) (r : Str) (h : Pd n p0 p1 = some r) : aB Tryz.prog 156 [.str p0, .i p1] [] (.str r) [] := by
 unfold Pd at h
 refine ah true Tryz.func156 rfl (nt Tryz.ntmps156 rfl) fun Q hQ t ht => ?_
 conv at ht => whnf
 subst ht
 refine .r fun K1 k1 => (k1 _ _ ?_)
 refine .r1 fun K2 k2 => (⟨List.map encS ([([62, 45, 62, 62] : Str), ([60, 61, 62] : Str), ([60, 60, 124] : Str), ([124, 62, 62] : Str), ([124, 45, 62] : Str), ([60, 45, 62] : Str), ([43, 45, 62] : Str), ([45, 45, 62] : Str), ([62, 45, 62] : Str), ([61, 62] : Str), ([47, 61] : Str), ([60, 61] : Str), ([62, 61] : Str), ([46, 46] : Str), ([92, 47] : Str), ([47, 92] : Str), ([62, 60] : Str), ([60, 43] : Str), ([60, 124] : Str), ([124, 62] : Str)]), by kernel_rfl, ?_⟩)
 refine k2 _ _ (.q fun K3 k3 => .r fun K4 k4 => ?_)
 refine k4 _ _ (.block ?_)
 obtain ⟨o1, ho1, h⟩ := ob h
 have hR1 : ∀ s2 : Unit, o1 = .nx s2 → ∀ t9 h9, Le 0 t9 h9 (.str p0 :: (.i p1 :: (u32 (u16 (u4 (u2 (.unk :: []))))))) [] → K3 t9 h9 := by
  intro s2 ho
  subst ho
  dsimp only [LR.el] at h
  intro t9 h9 hw
  refine k3 _ _ (AW.le hw ?_)
  refine .q fun K5 k5 => .r1 fun K6 k6 => (⟨(IntKind.wrap .i64 (p1 + 1)), rfl, ?_⟩)
  obtain ⟨x1, hx1, h⟩ := ob h
  refine Gm hx1 (.int _ _ _) (.int _ _ _) (⟨List.map encS ([([38] : Str), ([61] : Str), ([60] : Str), ([62] : Str), ([43] : Str), ([45] : Str), ([42] : Str), ([47] : Str), ([92] : Str), ([59] : Str), ([126] : Str), ([46] : Str), ([44] : Str), ([124] : Str), ([40] : Str), ([41] : Str), ([91] : Str), ([93] : Str), ([123] : Str), ([125] : Str)]), by kernel_rfl, ?_⟩)
  obtain ⟨x2, hx2, h⟩ := ob h
  refine aj (rA _ _ _ _ hx2) aM (.cons (.same _) (.cons (.share _ _) .nil)) (fun g => by simp) (fun g => rfl) (k6 _ _ ?_)
  refine .ak rfl h (fun hc1 h => ?_) (fun hc1 h => ?_)
  ·refine .r fun K7 k7 => (⟨(IntKind.wrap .i64 (p1 + 1)), rfl, ?_⟩)
   obtain ⟨x3, hx3, h⟩ := ob h
   refine Gm hx3 (.int _ _ _) (.int _ _ _) (k7 _ _ ?_)
   refine .ret ?_
   obtain rfl := sj h
   exact hQ _ _ _ rp
  refine .skip (k5 _ _ ?_)
  refine .r fun K8 k8 => (k8 _ _ ?_)
  refine .ret ?_
  obtain rfl := sj h
  exact hQ _ _ _ rp
 refine .loopS (Dv n p0 p1) (fun (s1 : Int) => (.str p0 :: (.i p1 :: (u2 (.unk :: (.slice (List.map encS ([([62, 45, 62, 62] : Str), ([60, 61, 62] : Str), ([60, 60, 124] : Str), ([124, 62, 62] : Str), ([124, 45, 62] : Str), ([60, 45, 62] : Str), ([43, 45, 62] : Str), ([45, 45, 62] : Str), ([62, 45, 62] : Str), ([61, 62] : Str), ([47, 61] : Str), ([60, 61] : Str), ([62, 61] : Str), ([46, 46] : Str), ([92, 47] : Str), ([47, 92] : Str), ([62, 60] : Str), ([60, 43] : Str), ([60, 124] : Str), ([124, 62] : Str)])) (.tip 0 1) :: (.i s1 :: (u32 (u16 (u2 [])))))))))) (fun (s1 : Int) => [.tip (List.length ([([62, 45, 62, 62] : Str), ([60, 61, 62] : Str), ([60, 60, 124] : Str), ([124, 62, 62] : Str), ([124, 45, 62] : Str), ([60, 45, 62] : Str), ([43, 45, 62] : Str), ([45, 45, 62] : Str), ([62, 45, 62] : Str), ([61, 62] : Str), ([47, 61] : Str), ([60, 61] : Str), ([62, 61] : Str), ([46, 46] : Str), ([92, 47] : Str), ([47, 92] : Str), ([62, 60] : Str), ([60, 43] : Str), ([60, 124] : Str), ([124, 62] : Str)]) * 1)]) ho1 (fun _ => rfl) (li (.s (.s (.u2 (.u (.s (.s (.u16 (.u16 (.u16 (.u2 .n))))))))))) ?_
 intro n1 s1 hs1 KL1 hKL1
 unfold Dv at hs1
 refine .q fun K9 k9 => .r fun K10 k10 => (aV (l := [([62, 45, 62, 62] : Str), ([60, 61, 62] : Str), ([60, 60, 124] : Str), ([124, 62, 62] : Str), ([124, 45, 62] : Str), ([60, 45, 62] : Str), ([43, 45, 62] : Str), ([45, 45, 62] : Str), ([62, 45, 62] : Str), ([61, 62] : Str), ([47, 61] : Str), ([60, 61] : Str), ([62, 61] : Str), ([46, 46] : Str), ([92, 47] : Str), ([47, 92] : Str), ([62, 60] : Str), ([60, 43] : Str), ([60, 124] : Str), ([124, 62] : Str)]) (f := encS) ?_)
 refine k10 _ _ (.ak rfl hs1 (fun hc2 hs1 => ?_) (fun hc2 hs1 => ?_))
 ·refine .skip (k9 _ _ ?_)
  refine .q fun K11 k11 => (.block ?_)
  refine .q fun K12 k12 => ?_
  obtain ⟨s3, hj1, hs1⟩ := ob hs1
  have hR2 : ∀ t9 h9, Le 0 t9 h9 (.str p0 :: (.i p1 :: (u2 (.unk :: (.slice (List.map encS ([([62, 45, 62, 62] : Str), ([60, 61, 62] : Str), ([60, 60, 124] : Str), ([124, 62, 62] : Str), ([124, 45, 62] : Str), ([60, 45, 62] : Str), ([43, 45, 62] : Str), ([45, 45, 62] : Str), ([62, 45, 62] : Str), ([61, 62] : Str), ([47, 61] : Str), ([60, 61] : Str), ([62, 61] : Str), ([46, 46] : Str), ([92, 47] : Str), ([47, 92] : Str), ([62, 60] : Str), ([60, 43] : Str), ([60, 124] : Str), ([124, 62] : Str)])) (.tip 0 1) :: (.i s1 :: (u32 (.unk :: (.bool s3 :: (u16 [])))))))))) [.tip (List.length ([([62, 45, 62, 62] : Str), ([60, 61, 62] : Str), ([60, 60, 124] : Str), ([124, 62, 62] : Str), ([124, 45, 62] : Str), ([60, 45, 62] : Str), ([43, 45, 62] : Str), ([45, 45, 62] : Str), ([62, 45, 62] : Str), ([61, 62] : Str), ([47, 61] : Str), ([60, 61] : Str), ([62, 61] : Str), ([46, 46] : Str), ([92, 47] : Str), ([47, 92] : Str), ([62, 60] : Str), ([60, 43] : Str), ([60, 124] : Str), ([124, 62] : Str)]) * 1)] → K12 t9 h9 := by
   intro t9 h9 hw
   refine k12 _ _ (AW.le hw ?_)
   clear hw
   refine .ak rfl hs1 (fun hc3 hs1 => ?_) (fun hc3 hs1 => ?_)
   ·refine .r fun K13 k13 => ?_
    obtain ⟨x4, hx4, hs1⟩ := ob hs1
    refine aG (l := [([62, 45, 62, 62] : Str), ([60, 61, 62] : Str), ([60, 60, 124] : Str), ([124, 62, 62] : Str), ([124, 45, 62] : Str), ([60, 45, 62] : Str), ([43, 45, 62] : Str), ([45, 45, 62] : Str), ([62, 45, 62] : Str), ([61, 62] : Str), ([47, 61] : Str), ([60, 61] : Str), ([62, 61] : Str), ([46, 46] : Str), ([92, 47] : Str), ([47, 92] : Str), ([62, 60] : Str), ([60, 43] : Str), ([60, 124] : Str), ([124, 62] : Str)]) (f := encS) (cs := [.str (x4)]) hx4 (rfl) rfl (k13 _ _ ?_)
    refine .ret ?_
    obtain rfl := sj hs1
    dsimp only [LR.el] at h
    obtain rfl := sj h
    exact hQ _ _ _ rp
   refine .skip (k11 _ _ ?_)
   refine .know 6 0 fun hv1 => (.know 5 0 fun hv2 => ?_)
   refine rg 0 (⟨(s1 + 1), by have := dz hv1; have := fG hv2; have h8 := of_decide_eq_true hc2; exact bC (by omega) (by omega), ?_⟩)
   exact hKL1 _ _ _ hs1 (li (.s (.s (.u2 (.u (.s (.s (.u16 (.u16 (.u16 (.u2 .n)))))))))))
  refine rg 0 (⟨(IntKind.wrap .i64 ((p0.length : Int) - p1)), rfl, ?_⟩)
  obtain ⟨x5, hx5, hj1⟩ := ob hj1
  refine aG (l := [([62, 45, 62, 62] : Str), ([60, 61, 62] : Str), ([60, 60, 124] : Str), ([124, 62, 62] : Str), ([124, 45, 62] : Str), ([60, 45, 62] : Str), ([43, 45, 62] : Str), ([45, 45, 62] : Str), ([62, 45, 62] : Str), ([61, 62] : Str), ([47, 61] : Str), ([60, 61] : Str), ([62, 61] : Str), ([46, 46] : Str), ([92, 47] : Str), ([47, 92] : Str), ([62, 60] : Str), ([60, 43] : Str), ([60, 124] : Str), ([124, 62] : Str)]) (f := encS) (cs := [.str (x5)]) hx5 (rfl) rfl (aD hj1 (fun hc4 hj1 => ?_) (fun hc4 hj1 => ?_))
  ·obtain ⟨x6, hx6, hj1⟩ := ob hj1
   refine aG (l := [([62, 45, 62, 62] : Str), ([60, 61, 62] : Str), ([60, 60, 124] : Str), ([124, 62, 62] : Str), ([124, 45, 62] : Str), ([60, 45, 62] : Str), ([43, 45, 62] : Str), ([45, 45, 62] : Str), ([62, 45, 62] : Str), ([61, 62] : Str), ([47, 61] : Str), ([60, 61] : Str), ([62, 61] : Str), ([46, 46] : Str), ([92, 47] : Str), ([47, 92] : Str), ([62, 60] : Str), ([60, 43] : Str), ([60, 124] : Str), ([124, 62] : Str)]) (f := encS) (cs := [.str (x6)]) hx6 (rfl) rfl (⟨(IntKind.wrap .i64 (p1 + (x6.length : Int))), rfl, ?_⟩)
   obtain ⟨x7, hx7, hj1⟩ := ob hj1
   refine Gm hx7 (.int _ _ _) (.int _ _ _) ?_
   obtain ⟨x8, hx8, hj1⟩ := ob hj1
   refine aG (l := [([62, 45, 62, 62] : Str), ([60, 61, 62] : Str), ([60, 60, 124] : Str), ([124, 62, 62] : Str), ([124, 45, 62] : Str), ([60, 45, 62] : Str), ([43, 45, 62] : Str), ([45, 45, 62] : Str), ([62, 45, 62] : Str), ([61, 62] : Str), ([47, 61] : Str), ([60, 61] : Str), ([62, 61] : Str), ([46, 46] : Str), ([92, 47] : Str), ([47, 92] : Str), ([62, 60] : Str), ([60, 43] : Str), ([60, 124] : Str), ([124, 62] : Str)]) (f := encS) (cs := [.str (x8)]) hx8 (rfl) rfl (⟨rfl, ?_⟩)
   cases hj1
   exact hR2 _ _ (li (.s (.s (.u2 (.u (.s (.s (.u16 (.u16 (.u (.s (.u16 .n))))))))))))
  refine ⟨rfl, ?_⟩
  cases hj1
  exact hR2 _ _ (li (.s (.s (.u2 (.u (.s (.s (.u16 (.u16 (.u (.s (.u16 .n))))))))))))
 refine .exit ?_
 exact hR1 _ (sj hs1).symm _ _ (wk [] (.c2 (.u32 (.u16 (.u4 (.u2 (.u .nil)))))) .nil rfl)
theorem U7 (n : Nat) (p0 : Str) (p1 : Int) (r : S_refinementref01_token) (h : vV n p0 p1 = some r) : aB Tryz.prog 81 [.str p0, .i p1] [] (.agg [.i r.kind, .str r.s, .i r.at_]) [] := by
 unfold vV at h
 refine ah true Tryz.func81 rfl (nt Tryz.ntmps81 rfl) fun Q hQ t ht => ?_
 conv at ht => whnf
 subst ht
 refine .r1 fun K1 k1 => (k1 _ _ ?_)
 refine .q fun K2 k2 => (.block ?_)
 obtain ⟨o1, ho1, h⟩ := ob h
 have hR1 : ∀ s2 : Int, o1 = .nx s2 → ∀ t9 h9, Le 0 t9 h9 (.str p0 :: (.i s2 :: (u2 (.ptr 0 0 :: (u64 (u64 (.unk :: []))))))) [.box [.i 0, .str ([] : Str), .i 0]] → K2 t9 h9 := by
  intro s2 ho
  subst ho
  dsimp only [LR.el] at h
  intro t9 h9 hw
  refine k2 _ _ (AW.le hw ?_)
  refine .q fun K3 k3 => .r fun K4 k4 => (k4 _ _ ?_)
  refine .ak rfl h (fun hc1 h => ?_) (fun hc1 h => ?_)
  ·refine .r fun K5 k5 => (k5 _ _ ?_)
   refine .ret ?_
   obtain rfl := sj h
   exact hQ _ _ _ rp
  refine .skip (k3 _ _ ?_)
  refine .r fun K6 k6 => (k6 _ _ ?_)
  refine .q fun K7 k7 => (.block ?_)
  obtain ⟨o2, ho2, h⟩ := ob h
  have hR2 : ∀ s4 : Int, o2 = .nx s4 → ∀ t9 h9, Le 0 t9 h9 (.str p0 :: (.i s2 :: (u2 (.ptr 0 0 :: (.i s4 :: (u64 (u64 []))))))) [.box [.i 0, .str ([] : Str), .i 0]] → K7 t9 h9 := by
   intro s4 ho
   subst ho
   dsimp only [LR.el] at h
   intro t9 h9 hw
   refine k7 _ _ (AW.le hw ?_)
   refine .r fun K8 k8 => ?_
   obtain ⟨x1, hx1, h⟩ := ob h
   refine Gm hx1 (.int _ _ _) (.int _ _ _) (k8 _ _ ?_)
   refine .q fun K9 k9 => (.block ?_)
   refine .q fun K10 k10 => ?_
   obtain ⟨s5, hj1, h⟩ := ob h
   have hR3 : ∀ t9 h9, Le 0 t9 h9 (.str p0 :: (.i s2 :: (u2 (.ptr 0 0 :: (.i s4 :: (.str x1 :: (u32 (u16 (.bool s5 :: (u64 (u8 (u4 (u2 []))))))))))))) [.box [.i 0, .str ([] : Str), .i 0]] → K10 t9 h9 := by
    intro t9 h9 hw
    refine k10 _ _ (AW.le hw ?_)
    clear hw
    refine .ak rfl h (fun hc2 h => ?_) (fun hc2 h => ?_)
    ·refine .r fun K11 k11 => (k11 _ _ ?_)
     refine .ret ?_
     obtain rfl := sj h
     exact hQ _ _ _ rp
    refine .q fun K12 k12 => ?_
    obtain ⟨s6, hj2, h⟩ := ob h
    have hR4 : ∀ t9 h9, Le 0 t9 h9 (.str p0 :: (.i s2 :: (u2 (.ptr 0 0 :: (.i s4 :: (.str x1 :: (u32 (u16 (u8 (u4 (.bool s6 :: (u64 (u2 []))))))))))))) [.box [.i 0, .str ([] : Str), .i 0]] → K12 t9 h9 := by
     intro t9 h9 hw
     refine k12 _ _ (AW.le hw ?_)
     clear hw
     refine .ak rfl h (fun hc3 h => ?_) (fun hc3 h => ?_)
     ·refine .r fun K13 k13 => (k13 _ _ ?_)
      refine .ret ?_
      obtain rfl := sj h
      exact hQ _ _ _ rp
     refine .r fun K14 k14 => ?_
     obtain ⟨x2, hx2, h⟩ := ob h
     refine je hx2 ?_
     obtain ⟨x3, hx3, h⟩ := ob h
     refine aj (Aa _ _ _ hx3) aM (.cons (.same _) .nil) (fun g => rfl) (fun g => rfl) (k14 _ _ ?_)
     refine .ak rfl h (fun hc4 h => ?_) (fun hc4 h => ?_)
     ·refine .q fun K15 k15 => ?_
      obtain ⟨s7, hj3, h⟩ := ob h
      have hR5 : ∀ t9 h9, Le 0 t9 h9 (.unk :: (.i s2 :: (u2 (.ptr 0 0 :: (.unk :: (.str s7 :: (u64 (u32 (u16 (u8 (u4 (u2 (.unk :: []))))))))))))) [.box [.i 0, .str ([] : Str), .i 0]] → K15 t9 h9 := by
       intro t9 h9 hw
       refine k15 _ _ (AW.le hw ?_)
       clear hw
       refine .r fun K16 k16 => (k16 _ _ ?_)
       refine .ret ?_
       obtain rfl := sj h
       exact hQ _ _ _ rp
      refine .q fun K17 k17 => ?_
      obtain ⟨s8, hj4, hj3⟩ := ob hj3
      have hR6 : ∀ t9 h9, Le 0 t9 h9 (.str p0 :: (.i s2 :: (u2 (.ptr 0 0 :: (.i s4 :: (.str x1 :: (u64 (u16 (u4 (u2 (.unk :: (.bool s8 :: (u32 (u4 (u2 (.unk :: [])))))))))))))))) [.box [.i 0, .str ([] : Str), .i 0]] → K17 t9 h9 := by
       intro t9 h9 hw
       refine k17 _ _ (AW.le hw ?_)
       clear hw
       refine .ak rfl hj3 (fun hc5 hj3 => ?_) (fun hc5 hj3 => ?_)
       ·refine rg 0 (⟨(IntKind.wrap .i64 (s4 + 1)), rfl, ?_⟩)
        obtain ⟨x4, hx4, hj3⟩ := ob hj3
        refine Gm hx4 (.int _ _ _) (.int _ _ _) ?_
        cases hj3
        exact hR5 _ _ (li (.u (.s (.u2 (.s (.u (.s (.u16 (.u16 (.u16 (.u16 (.u16 (.u16 (.u16 (.u8 (.u4 (.u2 (.u .n))))))))))))))))))
       refine .skip ?_
       cases hj3
       exact hR5 _ _ (li (.u (.s (.u2 (.s (.u (.s (.u16 (.u16 (.u16 (.u16 (.u16 (.u16 (.u16 (.u8 (.u4 (.u2 (.u .n))))))))))))))))))
      refine rg 0 (aD hj4 (fun hc6 hj4 => ?_) (fun hc6 hj4 => ?_))
      ·obtain ⟨x5, hx5, hj4⟩ := ob hj4
       refine je hx5 ?_
       cases hj4
       exact hR6 _ _ (li (.s (.s (.u2 (.s (.s (.s (.u16 (.u16 (.u16 (.u16 (.u16 (.u4 (.u2 (.u (.s (.u16 (.u16 (.u4 (.u2 (.u .n)))))))))))))))))))))
      cases hj4
      exact hR6 _ _ (li (.s (.s (.u2 (.s (.s (.s (.u16 (.u16 (.u16 (.u16 (.u16 (.u4 (.u2 (.u (.s (.u16 (.u16 (.u4 (.u2 (.u .n)))))))))))))))))))))
     refine .q fun K18 k18 => ?_
     obtain ⟨s9, hj5, h⟩ := ob h
     have hR7 : ∀ t9 h9, Le 0 t9 h9 (.str p0 :: (.i s2 :: (u2 (.ptr 0 0 :: (.unk :: (.str x1 :: (u64 (u32 (.bool s9 :: (u16 (u8 (u4 (u2 []))))))))))))) [.box [.i 0, .str ([] : Str), .i 0]] → K18 t9 h9 := by
      intro t9 h9 hw
      refine k18 _ _ (AW.le hw ?_)
      clear hw
      refine .ak rfl h (fun hc7 h => ?_) (fun hc7 h => ?_)
      ·refine .r fun K19 k19 => (k19 _ _ ?_)
       refine .ret ?_
       obtain rfl := sj h
       exact hQ _ _ _ rp
      refine .r fun K20 k20 => ?_
      obtain ⟨x6, hx6, h⟩ := ob h
      refine je hx6 ?_
      obtain ⟨x7, hx7, h⟩ := ob h
      refine aj (BM _ _ _ hx7) aM (.cons (.same _) .nil) (fun g => rfl) (fun g => rfl) (k20 _ _ ?_)
      refine .ak rfl h (fun hc8 h => ?_) (fun hc8 h => ?_)
      ·refine .r fun K21 k21 => (k21 _ _ ?_)
       refine .ret ?_
       obtain rfl := sj h
       exact hQ _ _ _ rp
      refine .skip (k9 _ _ ?_)
      refine .q fun K22 k22 => .r fun K23 k23 => ?_
      obtain ⟨x8, hx8, h⟩ := ob h
      refine aj (al0 _ _ _ _ hx8) aM (.cons (.same _) (.cons (.same _) .nil)) (fun g => rfl) (fun g => rfl) (k23 _ _ ?_)
      refine .r fun K24 k24 => (k24 _ _ ?_)
      refine .ak rfl h (fun hc9 h => ?_) (fun hc9 h => ?_)
      ·refine .r fun K25 k25 => (k25 _ _ ?_)
       refine .ret ?_
       obtain rfl := sj h
       exact hQ _ _ _ rp
      refine .skip (k22 _ _ ?_)
      refine .r fun K26 k26 => (k26 _ _ ?_)
      refine .ret ?_
      obtain rfl := sj h
      exact hQ _ _ _ rp
     refine rg 0 ?_
     obtain ⟨x9, hx9, hj5⟩ := ob hj5
     refine je hx9 ?_
     obtain ⟨x10, hx10, hj5⟩ := ob hj5
     refine aj (BM _ _ _ hx10) aM (.cons (.same _) .nil) (fun g => rfl) (fun g => rfl) (aD hj5 (fun hc10 hj5 => ?_) (fun hc10 hj5 => ?_))
     ·obtain ⟨x11, hx11, hj5⟩ := ob hj5
      refine aj (SN _ _ _ hx11) aM (.cons (.same _) .nil) (fun g => rfl) (fun g => rfl) ?_
      cases hj5
      exact hR7 _ _ (li (.s (.s (.u2 (.s (.u (.s (.u16 (.u16 (.u16 (.u16 (.u16 (.u16 (.s (.u16 (.u8 (.u4 (.u2 .n))))))))))))))))))
     cases hj5
     exact hR7 _ _ (li (.s (.s (.u2 (.s (.u (.s (.u16 (.u16 (.u16 (.u16 (.u16 (.u16 (.s (.u16 (.u8 (.u4 (.u2 .n))))))))))))))))))
    refine rg 0 ?_
    obtain ⟨x12, hx12, hj2⟩ := ob hj2
    refine je hx12 ?_
    obtain ⟨x13, hx13, hj2⟩ := ob hj2
    refine aj (Aa _ _ _ hx13) aM (.cons (.same _) .nil) (fun g => rfl) (fun g => rfl) (aD hj2 (fun hc11 hj2 => ?_) (fun hc11 hj2 => ?_))
    ·cases hj2
     exact hR4 _ _ (li (.s (.s (.u2 (.s (.s (.s (.u16 (.u16 (.u16 (.u8 (.u4 (.s (.u16 (.u16 (.u16 (.u16 (.u2 .n))))))))))))))))))
    cases hj2
    exact hR4 _ _ (li (.s (.s (.u2 (.s (.s (.s (.u16 (.u16 (.u16 (.u8 (.u4 (.s (.u16 (.u16 (.u16 (.u16 (.u2 .n))))))))))))))))))
   refine rg 0 ?_
   obtain ⟨x14, hx14, hj1⟩ := ob hj1
   refine je hx14 ?_
   obtain ⟨x15, hx15, hj1⟩ := ob hj1
   refine aj (Aa _ _ _ hx15) aM (.cons (.same _) .nil) (fun g => rfl) (fun g => rfl) (aD hj1 (fun hc12 hj1 => ?_) (fun hc12 hj1 => ?_))
   ·obtain ⟨x16, hx16, hj1⟩ := ob hj1
    refine aj (Rc _ _ _ hx16) aM (.cons (.same _) .nil) (fun g => rfl) (fun g => rfl) ?_
    cases hj1
    exact hR3 _ _ (li (.s (.s (.u2 (.s (.s (.s (.u16 (.u16 (.u16 (.s (.u16 (.u16 (.u16 (.u16 (.u8 (.u4 (.u2 .n))))))))))))))))))
   cases hj1
   exact hR3 _ _ (li (.s (.s (.u2 (.s (.s (.s (.u16 (.u16 (.u16 (.s (.u16 (.u16 (.u16 (.u16 (.u8 (.u4 (.u2 .n))))))))))))))))))
  refine .loopS (xX n p0) (fun (s3 : Int) => (.str p0 :: (.i s2 :: (u2 (.ptr 0 0 :: (.i s3 :: (u64 (u64 [])))))))) (fun (s3 : Int) => [.box [.i 0, .str ([] : Str), .i 0]]) ho2 (fun _ => rfl) (li (.s (.s (.u2 (.s (.s (.u16 (.u16 (.u16 (.u16 (.u16 (.u16 (.u16 (.u16 .n)))))))))))))) ?_
  intro n2 s3 hs2 KL2 hKL2
  unfold xX at hs2
  refine .q fun K27 k27 => .q fun K28 k28 => ?_
  obtain ⟨s10, hj6, hs2⟩ := ob hs2
  have hR8 : ∀ t9 h9, Le 0 t9 h9 (.str p0 :: (.i s2 :: (u2 (.ptr 0 0 :: (.i s3 :: (u32 (u8 (u2 (.bool s10 :: (u64 (u16 (u4 (.unk :: []))))))))))))) [.box [.i 0, .str ([] : Str), .i 0]] → K28 t9 h9 := by
   intro t9 h9 hw
   refine k28 _ _ (AW.le hw ?_)
   clear hw
   refine .ak rfl hs2 (fun hc13 hs2 => ?_) (fun hc13 hs2 => ?_)
   ·refine .skip (k27 _ _ ?_)
    refine .block (rg 0 ?_)
    refine ⟨(IntKind.wrap .i64 (s3 + 1)), rfl, ?_⟩
    exact hKL2 _ _ _ hs2 (li (.s (.s (.u2 (.s (.s (.u16 (.u16 (.u16 (.u16 (.u16 (.u16 (.u16 (.u16 .n))))))))))))))
   refine .exit ?_
   exact hR2 _ (sj hs2).symm _ _ (li (.s (.s (.u2 (.s (.s (.u16 (.u16 (.u16 (.u16 (.u16 (.u16 (.u16 (.u16 .n))))))))))))))
  refine rg 0 (aD hj6 (fun hc14 hj6 => ?_) (fun hc14 hj6 => ?_))
  ·obtain ⟨x17, hx17, hj6⟩ := ob hj6
   refine je hx17 ?_
   obtain ⟨x18, hx18, hj6⟩ := ob hj6
   refine aj (amD _ _ _ hx18) aM (.cons (.same _) .nil) (fun g => rfl) (fun g => rfl) ?_
   cases hj6
   exact hR8 _ _ (li (.s (.s (.u2 (.s (.s (.u16 (.u16 (.u8 (.u2 (.s (.u16 (.u16 (.u16 (.u16 (.u16 (.u4 (.u .n))))))))))))))))))
  cases hj6
  exact hR8 _ _ (li (.s (.s (.u2 (.s (.s (.u16 (.u16 (.u8 (.u2 (.s (.u16 (.u16 (.u16 (.u16 (.u16 (.u4 (.u .n))))))))))))))))))
 refine .loopS (rZ n p0) (fun (s1 : Int) => (.str p0 :: (.i s1 :: (u2 (.ptr 0 0 :: (u64 (u64 (.unk :: [])))))))) (fun (s1 : Int) => [.box [.i 0, .str ([] : Str), .i 0]]) ho1 (fun _ => rfl) (li (.s (.s (.u2 (.s (.u16 (.u16 (.u16 (.u16 (.u16 (.u16 (.u16 (.u16 (.u .n)))))))))))))) ?_
 intro n1 s1 hs1 KL1 hKL1
 unfold rZ at hs1
 refine .q fun K29 k29 => .q fun K30 k30 => ?_
 obtain ⟨s11, hj7, hs1⟩ := ob hs1
 have hR9 : ∀ t9 h9, Le 0 t9 h9 (.str p0 :: (.i s1 :: (u2 (.ptr 0 0 :: (u16 (u8 (.bool s11 :: (u64 (u32 (u8 [])))))))))) [.box [.i 0, .str ([] : Str), .i 0]] → K30 t9 h9 := by
  intro t9 h9 hw
  refine k30 _ _ (AW.le hw ?_)
  clear hw
  refine .ak rfl hs1 (fun hc15 hs1 => ?_) (fun hc15 hs1 => ?_)
  ·refine .skip (k29 _ _ ?_)
   refine .block (rg 0 ?_)
   refine ⟨(IntKind.wrap .i64 (s1 + 1)), rfl, ?_⟩
   exact hKL1 _ _ _ hs1 (li (.s (.s (.u2 (.s (.u16 (.u16 (.u16 (.u16 (.u16 (.u16 (.u16 (.u16 (.u .n))))))))))))))
  refine .exit ?_
  exact hR1 _ (sj hs1).symm _ _ (li (.s (.s (.u2 (.s (.u16 (.u16 (.u16 (.u16 (.u16 (.u16 (.u16 (.u16 (.u .n))))))))))))))
 refine rg 0 (aD hj7 (fun hc16 hj7 => ?_) (fun hc16 hj7 => ?_))
 ·obtain ⟨x19, hx19, hj7⟩ := ob hj7
  refine je hx19 (aD hj7 (fun hc17 hj7 => ?_) (fun hc17 hj7 => ?_))
  ·cases hj7
   exact hR9 _ _ (li (.s (.s (.u2 (.s (.u16 (.u8 (.s (.u16 (.u16 (.u16 (.u16 (.u16 (.u16 (.u8 .n)))))))))))))))
  obtain ⟨x20, hx20, hj7⟩ := ob hj7
  refine je hx20 (aD hj7 (fun hc18 hj7 => ?_) (fun hc18 hj7 => ?_))
  ·cases hj7
   exact hR9 _ _ (li (.s (.s (.u2 (.s (.u16 (.u8 (.s (.u16 (.u16 (.u16 (.u16 (.u16 (.u16 (.u8 .n)))))))))))))))
  obtain ⟨x21, hx21, hj7⟩ := ob hj7
  refine je hx21 ?_
  cases hj7
  exact hR9 _ _ (li (.s (.s (.u2 (.s (.u16 (.u8 (.s (.u16 (.u16 (.u16 (.u16 (.u16 (.u16 (.u8 .n)))))))))))))))
 cases hj7
 exact hR9 _ _ (li (.s (.s (.u2 (.s (.u16 (.u8 (.s (.u16 (.u16 (.u16 (.u16 (.u16 (.u16 (.u8 .n)))))))))))))))
theorem iJ (n : Nat) (p0 : Str) (p1 : Int) (p2 : Str) (p3 p4 : Int) (p5 p6 : Int) (r : Bool) (h : SK n p0 p1 p2 p3 p4 p5 p6 = some r) : aB Tryz.prog 84 [.ptr 0 0] [.box [.str p0, .i p1, .str p2, .i p3, .i p4, .i p5, .i p6]] (.bool r) [.box [.str p0, .i p1, .str p2, .i p3, .i p4, .i p5, .i p6]] := by
 unfold SK at h
 refine ah true Tryz.func84 rfl (nt Tryz.ntmps84 rfl) fun Q hQ t ht => ?_
 conv at ht => whnf
 subst ht
 refine .r fun K1 k1 => (k1 _ _ ?_)
 refine .r fun K2 k2 => (k2 _ _ ?_)
 refine .ret ?_
 obtain rfl := sj h
 exact hQ _ _ _ (rI [0])
theorem eO (n : Nat) (p0 : Str) (p1 : Int) (p2 : Str) (p3 p4 : Int) (p5 p6 : Int) (p7 : Str) (r : Bool) (h : fu n p0 p1 p2 p3 p4 p5 p6 p7 = some r) : aB Tryz.prog 157 [.ptr 0 0, .str p7] [.box [.str p0, .i p1, .str p2, .i p3, .i p4, .i p5, .i p6]] (.bool r) [.box [.str p0, .i p1, .str p2, .i p3, .i p4, .i p5, .i p6]] := by
 unfold fu at h
 refine ah true Tryz.func157 rfl (nt Tryz.ntmps157 rfl) fun Q hQ t ht => ?_
 conv at ht => whnf
 subst ht
 refine .r fun K1 k1 => (k1 _ _ ?_)
 refine .q fun K2 k2 => ?_
 obtain ⟨s1, hj1, h⟩ := ob h
 have hR1 : ∀ t9 h9, Le 1 t9 h9 (u4 (.bool s1 :: (u16 (u4 (u2 (.unk :: [])))))) [.box [.str p0, .i p1, .str p2, .i p3, .i p4, .i p5, .i p6]] → K2 t9 h9 := by
  intro t9 h9 hw
  refine k2 _ _ (AW.le hw ?_)
  clear hw
  refine .ret ?_
  obtain rfl := sj h
  exact hQ _ _ _ (rI [0])
 refine rg 0 (aD hj1 (fun hc1 hj1 => ?_) (fun hc1 hj1 => ?_))
 ·cases hj1
  exact hR1 _ _ (li (.u4 (.s (.u16 (.u4 (.u2 (.u .n)))))))
 refine aD hj1 (fun hc2 hj1 => ?_) (fun hc2 hj1 => ?_)
 ·cases hj1
  exact hR1 _ _ (li (.u4 (.s (.u16 (.u4 (.u2 (.u .n)))))))
 cases hj1
 exact hR1 _ _ (li (.u4 (.s (.u16 (.u4 (.u2 (.u .n)))))))
theorem JG (n : Nat) (p0 : Str) (p1 : Int) (p2 : Str) (p3 p4 : Int) (p5 p6 : Int) (p7 p8 : Int) (r : Int × Int) (h : Dm n p0 p1 p2 p3 p4 p5 p6 p7 p8 = some r) : aB Tryz.prog 238 [.ptr 0 0, .i p7, .i p8] [.box [.str p0, .i p1, .str p2, .i p3, .i p4, .i p5, .i p6]] (.aW []) [.box [.str p0, .i p1, .str p2, .i p3, .i p4, .i r.1, .i r.2]] := by
 unfold Dm at h
 refine ah true Tryz.func238 rfl (nt Tryz.ntmps238 rfl) fun Q hQ t ht => ?_
 conv at ht => whnf
 subst ht
 refine .r fun K1 k1 => (cg [0] [] [.ptr 0 0] (iJ 0 p0 p1 p2 p3 p4 p5 p6 _ rfl) (.bool (p6 == 0)) [.box [.str p0, .i p1, .str p2, .i p3, .i p4, .i p5, .i p6]] ?_)
 refine k1 _ _ (.ak rfl h (fun hc1 h => ?_) (fun hc1 h => ?_))
 ·refine rg 0 ?_
  obtain rfl := sj h
  exact hQ _ _ _ (rI [0])
 refine .skip ?_
 obtain rfl := sj h
 exact hQ _ _ _ (rI [0])
end Abs
end Go.Proofs.YtiiaccpcoclklaaGreat

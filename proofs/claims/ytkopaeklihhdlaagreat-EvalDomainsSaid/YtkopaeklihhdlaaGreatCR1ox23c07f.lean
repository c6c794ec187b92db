/-
  Contracts of Go functions (printed). Conditions: none.
-/
import Derived.KernelRfl
import Derived.Test.YtkopaeklihhdlaaGreatCE10ox336767
set_option linter.all false
namespace Go.Proofs.YtkopaeklihhdlaaGreat
namespace Abs
open Go Go.Proofs
set_option maxRecDepth 100000
set_option maxHeartbeats 40000000
abbrev qbl(qd0:Env→S_api_Scope→Ty→Option Int):Prop:=∀(p0:Env) (p1:S_api_Scope) (p2:Ty) (r:Int),qd0 p0 p1 p2=some r→ak Tryz.prog 72 [.agg [.slice (List.map aj p0.carriers) .shared,.slice (List.map aB p0.names) .shared],.agg [.slice (List.map encI p1.sizes) .shared,.int .i64 p1.lo,.int .i64 p1.hi],.agg [.int .i64 p2.kind,.str p2.name,.slice (List.map aC p2.kids) .shared]] [] (.int .i64 r) []
theorem Ou(n:Nat)(qd0:Env→S_api_Scope→Ty→Option Int)(qb4:qbl qd0)(p0:Env)(p1:S_api_Scope)(p2:Ty)(r:Int)(h:eZ n qd0 p0 p1 p2=some r):ak Tryz.prog 72 [.agg [.slice (List.map aj p0.carriers) .shared,.slice (List.map aB p0.names) .shared],.agg [.slice (List.map encI p1.sizes) .shared,.int .i64 p1.lo,.int .i64 p1.hi],.agg [.int .i64 p2.kind,.str p2.name,.slice (List.map aC p2.kids) .shared]] [] (.int .i64 r) []:=by
 unfold eZ at h;refine aA true Tryz.func72 rfl (by rw[Tryz.ntmps72];exact qAa rfl) fun Q hQ t ht=>?_
 conv at ht=>whnf
 subst ht;refine .q fun K1 k1=>?_;refine rg 3 ?_
 conv=>whnf
 refine k1 _ _ ?_;refine .q fun K2 k2=>?_;refine rg 0 ?_
 conv=>whnf
 refine k2 _ _ ?_;refine .q fun K3 k3=>?_;obtain⟨s1,hj1,h⟩:=ob h;have hR1:∀t9 h9,Le 0 t9 h9 (u4 (u2 (.unk::(.int .i64 s1::(u64 (u8 (u2 []))))))) []→K3 t9 h9:=by
  intro t9 h9 hw;refine k3 _ _ (AW.le hw ?_);clear hw;refine .q fun K4 k4=>?_;refine .q fun K5 k5=>?_;refine rg 0 ?_
  conv=>whnf
  refine k5 _ _ ?_;refine .aK rfl h (fun hc1 h=>?_) (fun hc1 h=>?_)
  ·refine .q fun K6 k6=>?_;refine rg 0 ?_
   conv=>whnf
   refine k6 _ _ ?_;refine .ret ?_
   conv=>whnf
   have e9:=sj h;subst e9;refine hQ _ _ _ (aF aL (fun g=>rfl) ?_)
   conv=>whnf
  refine .skip ?_
  conv=>whnf
  refine k4 _ _ ?_;refine .q fun K7 k7=>?_;refine rg 0 ?_
  conv=>whnf
  refine k7 _ _ ?_;refine .ret ?_
  conv=>whnf
  have e9:=sj h;subst e9;refine hQ _ _ _ (aF aL (fun g=>rfl) ?_)
  conv=>whnf
 refine .q fun K8 k8=>?_;refine rg 0 ?_
 conv=>whnf
 refine k8 _ _ ?_;refine .block ?_;refine .q fun K9 k9=>?_;refine rg 0 ?_
 conv=>whnf
 refine k9 _ _ ?_;refine .aK rfl hj1 (fun hc2 hj1=>?_) (fun hc2 hj1=>?_)
 ·refine rg 0 ?_
  conv=>whnf
  refine⟨(IntKind.wrap .i64 (p1.hi - p1.lo)),rfl,?_⟩
  conv=>whnf
  refine⟨(IntKind.wrap .i64 ((IntKind.wrap .i64 (p1.hi - p1.lo))+1)),rfl,?_⟩
  conv=>whnf
  cases hj1;exact hR1 _ _ (wk [] (.u4 (.u2 (.u (.c rfl (.u64 (.u8 (.u2 .nil))))))) .nil rfl)
 refine .q fun K10 k10=>?_;refine rg 0 ?_
 conv=>whnf
 refine k10 _ _ ?_;refine .aK rfl hj1 (fun hc3 hj1=>?_) (fun hc3 hj1=>?_)
 ·refine rg 0 ?_
  conv=>whnf
  cases hj1;exact hR1 _ _ (wk [] (.u4 (.u2 (.u (.c rfl (.u64 (.u8 (.u2 .nil))))))) .nil rfl)
 refine .q fun K11 k11=>?_;refine rg 0 ?_
 conv=>whnf
 refine k11 _ _ ?_;refine .aK rfl hj1 (fun hc4 hj1=>?_) (fun hc4 hj1=>?_)
 ·refine .q fun K12 k12=>?_;refine rg 0 ?_
  conv=>whnf
  obtain⟨x1,hx1,hj1⟩:=ob hj1;refine au (Ar _ _ _ _ hx1) abT (.cons (.same _) (.cons (.same _) .nil)) (fun g=>by simp) (fun g=>rfl) ?_
  conv=>whnf
  refine k12 _ _ ?_;refine .q fun K13 k13=>?_;refine rg 0 ?_
  conv=>whnf
  refine k13 _ _ ?_;refine .aK rfl hj1 (fun hc5 hj1=>?_) (fun hc5 hj1=>?_)
  ·refine rg 0 ?_
   conv=>whnf
   obtain⟨x2,hx2,hj1⟩:=ob hj1;refine bf (l:=p1.sizes) (f:=encI) (cs:=[.int .i64 (x2)]) hx2 (rfl) rfl ?_
   conv=>whnf
   cases hj1;exact hR1 _ _ (wk [] (.u4 (.u2 (.u (.c rfl (.u64 (.u8 (.u2 .nil))))))) .nil rfl)
  refine .skip ?_
  conv=>whnf
  cases hj1;exact hR1 _ _ (wk [] (.u4 (.u2 (.u (.c rfl (.u64 (.u8 (.u2 .nil))))))) .nil rfl)
 refine .q fun K14 k14=>?_;refine rg 0 ?_
 conv=>whnf
 refine k14 _ _ ?_;refine .aK rfl hj1 (fun hc6 hj1=>?_) (fun hc6 hj1=>?_)
 ·refine .q fun K15 k15=>?_;refine rg 0 ?_
  conv=>whnf
  obtain⟨x3,hx3,hj1⟩:=ob hj1;refine bf (l:=p2.kids) (f:=aC) (cs:=[.int .i64 ((x3).kind),.str ((x3).name),.slice (List.map aC ((x3).kids)) .shared]) hx3 (bZ x3) rfl ?_
  conv=>whnf
  obtain⟨x4,hx4,hj1⟩:=ob hj1;refine au (qb4 _ _ _ _ hx4) Qk (.cons (.same _) (.cons (.same _) (.cons (.same _) .nil))) (fun g=>by simp) (fun g=>rfl) ?_
  conv=>whnf
  refine⟨by kernel_rfl,?_⟩
  conv=>whnf
  refine k15 _ _ ?_;refine .q fun K16 k16=>?_;refine rg 0 ?_
  conv=>whnf
  obtain⟨x5,hx5,hj1⟩:=ob hj1;refine bf (l:=p2.kids) (f:=aC) (cs:=[.int .i64 ((x5).kind),.str ((x5).name),.slice (List.map aC ((x5).kids)) .shared]) hx5 (bZ x5) rfl ?_
  conv=>whnf
  obtain⟨x6,hx6,hj1⟩:=ob hj1;refine au (qb4 _ _ _ _ hx6) Qk (.cons (.same _) (.cons (.same _) (.cons (.same _) .nil))) (fun g=>by simp) (fun g=>rfl) ?_
  conv=>whnf
  refine⟨by kernel_rfl,?_⟩
  conv=>whnf
  refine k16 _ _ ?_;refine .q fun K17 k17=>?_;obtain⟨s2,hj2,hj1⟩:=ob hj1;have hR2:∀t9 h9,Le 0 t9 h9 (u4 (u2 (.unk::(.int .i64 (-1)::(.unk::(.int .i64 x4::(.int .i64 x6::(u32 (u8 (u4 (u2 (.unk::(.bool s2::(u16 (u4 (u2 (.unk::[]))))))))))))))))) []→K17 t9 h9:=by
   intro t9 h9 hw;refine k17 _ _ (AW.le hw ?_);clear hw;refine .aK rfl hj1 (fun hc7 hj1=>?_) (fun hc7 hj1=>?_)
   ·refine rg 0 ?_
    conv=>whnf
    refine⟨(IntKind.wrap .i64 (x4*x6)),rfl,?_⟩
    conv=>whnf
    cases hj1;exact hR1 _ _ (li (.u4 (.u2 (.u (.s (.u16 (.u16 (.u16 (.u16 (.u8 (.u2 .n)))))))))))
   refine .skip ?_
   conv=>whnf
   cases hj1;exact hR1 _ _ (li (.u4 (.u2 (.u (.s (.u16 (.u16 (.u16 (.u16 (.u8 (.u2 .n)))))))))))
  refine rg 0 ?_
  conv=>whnf
  refine aD hj2 (fun hc8 hj2=>?_) (fun hc8 hj2=>?_)
  ·conv=>whnf
   cases hj2;exact hR2 _ _ (wk [] (.u4 (.u2 (.u (.c rfl (.u (.c rfl (.c rfl (.u32 (.u8 (.u4 (.u2 (.u (.c rfl (.u16 (.u4 (.u2 (.u .nil))))))))))))))))) .nil rfl)
  conv=>whnf
  cases hj2;exact hR2 _ _ (wk [] (.u4 (.u2 (.u (.c rfl (.u (.c rfl (.c rfl (.u32 (.u8 (.u4 (.u2 (.u (.c rfl (.u16 (.u4 (.u2 (.u .nil))))))))))))))))) .nil rfl)
 refine .q fun K18 k18=>?_;refine rg 0 ?_
 conv=>whnf
 refine k18 _ _ ?_;refine .aK rfl hj1 (fun hc9 hj1=>?_) (fun hc9 hj1=>?_)
 ·refine .q fun K19 k19=>?_;refine rg 0 ?_
  conv=>whnf
  obtain⟨x7,hx7,hj1⟩:=ob hj1;refine bf (l:=p2.kids) (f:=aC) (cs:=[.int .i64 ((x7).kind),.str ((x7).name),.slice (List.map aC ((x7).kids)) .shared]) hx7 (bZ x7) rfl ?_
  conv=>whnf
  obtain⟨x8,hx8,hj1⟩:=ob hj1;refine au (qb4 _ _ _ _ hx8) Qk (.cons (.same _) (.cons (.same _) (.cons (.same _) .nil))) (fun g=>by simp) (fun g=>rfl) ?_
  conv=>whnf
  refine⟨by kernel_rfl,?_⟩
  conv=>whnf
  refine k19 _ _ ?_;refine .q fun K20 k20=>?_;obtain⟨s3,hj3,hj1⟩:=ob hj1;have hR3:∀t9 h9,Le 0 t9 h9 (u4 (u2 (.unk::(.int .i64 (-1)::(u2 (.unk::(.int .i64 x8::(u64 (.bool s3::(u4 (.unk::[]))))))))))) []→K20 t9 h9:=by
   intro t9 h9 hw;refine k20 _ _ (AW.le hw ?_);clear hw;refine .aK rfl hj1 (fun hc10 hj1=>?_) (fun hc10 hj1=>?_)
   ·refine rg 0 ?_
    conv=>whnf
    obtain⟨x9,hx9,hj1⟩:=ob hj1;refine aiP hx9 ?_
    conv=>whnf
    cases hj1;exact hR1 _ _ (li (.u4 (.u2 (.u (.s (.u16 (.u16 (.u16 (.u16 (.u8 (.u2 .n)))))))))))
   refine .skip ?_
   conv=>whnf
   cases hj1;exact hR1 _ _ (li (.u4 (.u2 (.u (.s (.u16 (.u16 (.u16 (.u16 (.u8 (.u2 .n)))))))))))
  refine rg 0 ?_
  conv=>whnf
  refine aD hj3 (fun hc11 hj3=>?_) (fun hc11 hj3=>?_)
  ·conv=>whnf
   cases hj3;exact hR3 _ _ (wk [] (.u4 (.u2 (.u (.c rfl (.u2 (.u (.c rfl (.u64 (.c rfl (.u4 (.u .nil))))))))))) .nil rfl)
  conv=>whnf
  cases hj3;exact hR3 _ _ (wk [] (.u4 (.u2 (.u (.c rfl (.u2 (.u (.c rfl (.u64 (.c rfl (.u4 (.u .nil))))))))))) .nil rfl)
 refine .skip ?_
 conv=>whnf
 cases hj1;exact hR1 _ _ (wk [] (.u4 (.u2 (.u (.c rfl (.u64 (.u8 (.u2 .nil))))))) .nil rfl)
theorem Y3(n:Nat):qbl (qZ n):=by
 induction n with
 |zero=>exact(fun p0 p1 p2 r h=>by unfold qZ at h;cases h)
 |succ n ih=>
  exact(fun p0 p1 p2 r h=>Ou n _ ih p0 p1 p2 r (by unfold qZ at h;exact h))
theorem Nq(n:Nat):qbl (qZ n):=(Y3 n)
theorem aa7(n:Nat)(p0:Env)(p1:S_api_Scope)(p2:Ty)(r:Int)(h:xH n p0 p1 p2=some r):ak Tryz.prog 32 [.agg [.slice (List.map aj p0.carriers) .shared,.slice (List.map aB p0.names) .shared],.agg [.slice (List.map encI p1.sizes) .shared,.int .i64 p1.lo,.int .i64 p1.hi],.agg [.int .i64 p2.kind,.str p2.name,.slice (List.map aC p2.kids) .shared]] [] (.int .i64 r) []:=by
 unfold xH at h;refine aA true Tryz.func32 rfl (by rw[Tryz.ntmps32];exact qAa rfl) fun Q hQ t ht=>?_
 conv at ht=>whnf
 subst ht;refine .q fun K1 k1=>?_;refine rg 3 ?_
 conv=>whnf
 refine k1 _ _ ?_;refine .q fun K2 k2=>?_;refine .q fun K3 k3=>?_;obtain⟨s1,hj1,h⟩:=ob h;have hR1:∀t9 h9,Le 0 t9 h9 (u2 (.unk::(.ptr 0 0::(.ptr 1 0::(.ptr 2 0::(u8 (u2 (.bool s1::(u4 []))))))))) [.box [.slice (List.map aj p0.carriers) .shared,.slice (List.map aB p0.names) .shared],.box [.slice (List.map encI p1.sizes) .shared,.int .i64 p1.lo,.int .i64 p1.hi],.box [.int .i64 p2.kind,.str p2.name,.slice (List.map aC p2.kids) .shared]]→K3 t9 h9:=by
  intro t9 h9 hw;refine k3 _ _ (AW.le hw ?_);clear hw;refine .aK rfl h (fun hc1 h=>?_) (fun hc1 h=>?_)
  ·refine .q fun K4 k4=>?_;refine rg 0 ?_
   conv=>whnf
   refine k4 _ _ ?_;refine .ret ?_
   conv=>whnf
   have e9:=sj h;subst e9;refine hQ _ _ _ (aF aL (fun g=>rfl) ?_)
   conv=>whnf
  refine .skip ?_
  conv=>whnf
  refine k2 _ _ ?_;refine .q fun K5 k5=>?_;refine rg 0 ?_
  conv=>whnf
  obtain⟨x1,hx1,h⟩:=ob h;refine au (Nq _ _ _ _ _ hx1) Qk (.cons (.same _) (.cons (.same _) (.cons (.same _) .nil))) (fun g=>by simp) (fun g=>rfl) ?_
  conv=>whnf
  refine k5 _ _ ?_;refine .ret ?_
  conv=>whnf
  have e9:=sj h;subst e9;refine hQ _ _ _ (aF aL (fun g=>rfl) ?_)
  conv=>whnf
 refine rg 0 ?_
 conv=>whnf
 obtain⟨x2,hx2,hj1⟩:=ob hj1;refine au (Fh _ _ _ _ hx2) ajh (.cons (.same _) (.cons (.same _) .nil)) (fun g=>by simp) (fun g=>rfl) ?_
 conv=>whnf
 refine aD hj1 (fun hc2 hj1=>?_) (fun hc2 hj1=>?_)
 ·conv=>whnf
  cases hj1;exact hR1 _ _ (li (.u2 (.u (.s (.s (.s (.u8 (.u2 (.s (.u4 .n))))))))))
 conv=>whnf
 obtain⟨x3,hx3,hj1⟩:=ob hj1;refine au (F6 _ _ _ _ hx3) ad8 (.cons (.same _) (.cons (.same _) .nil)) (fun g=>by simp) (fun g=>rfl) ?_
 conv=>whnf
 cases hj1;exact hR1 _ _ (li (.u2 (.u (.s (.s (.s (.u8 (.u2 (.s (.u4 .n))))))))))
abbrev qbf(qdu:Env→S_api_Scope→Ty→Option Int):Prop:=∀(p0:Env) (p1:S_api_Scope) (p2:Ty) (r:Int),qdu p0 p1 p2=some r→ak Tryz.prog 73 [.agg [.slice (List.map aj p0.carriers) .shared,.slice (List.map aB p0.names) .shared],.agg [.slice (List.map encI p1.sizes) .shared,.int .i64 p1.lo,.int .i64 p1.hi],.agg [.int .i64 p2.kind,.str p2.name,.slice (List.map aC p2.kids) .shared]] [] (.int .i64 r) []
theorem Uh(n:Nat)(qdu:Env→S_api_Scope→Ty→Option Int)(qbz:qbf qdu)(p0:Env)(p1:S_api_Scope)(p2:Ty)(r:Int)(h:gI n qdu p0 p1 p2=some r):ak Tryz.prog 73 [.agg [.slice (List.map aj p0.carriers) .shared,.slice (List.map aB p0.names) .shared],.agg [.slice (List.map encI p1.sizes) .shared,.int .i64 p1.lo,.int .i64 p1.hi],.agg [.int .i64 p2.kind,.str p2.name,.slice (List.map aC p2.kids) .shared]] [] (.int .i64 r) []:=by
 unfold gI at h;refine aA true Tryz.func73 rfl (by rw[Tryz.ntmps73];exact qAa rfl) fun Q hQ t ht=>?_
 conv at ht=>whnf
 subst ht;refine .q fun K1 k1=>?_;refine rg 3 ?_
 conv=>whnf
 refine k1 _ _ ?_;refine .q fun K2 k2=>?_;refine rg 0 ?_
 conv=>whnf
 refine k2 _ _ ?_;refine .q fun K3 k3=>?_;obtain⟨o1,hj1,h⟩:=ob h;have hR1:∀s1:Int,o1=.nx s1→∀t9 h9,Le 0 t9 h9 (u4 (u2 (.unk::(.int .i64 s1::(u64 (u4 (.unk::[]))))))) []→K3 t9 h9:=by
  intro s1 ho;subst ho;dsimp only[LR.el]at h;intro t9 h9 hw;refine k3 _ _ (AW.le hw ?_);clear hw;refine .q fun K4 k4=>?_;refine .q fun K5 k5=>?_;refine rg 0 ?_
  conv=>whnf
  refine k5 _ _ ?_;refine .aK rfl h (fun hc1 h=>?_) (fun hc1 h=>?_)
  ·refine .q fun K6 k6=>?_;refine rg 0 ?_
   conv=>whnf
   refine k6 _ _ ?_;refine .ret ?_
   conv=>whnf
   have e9:=sj h;subst e9;refine hQ _ _ _ (aF aL (fun g=>rfl) ?_)
   conv=>whnf
  refine .skip ?_
  conv=>whnf
  refine k4 _ _ ?_;refine .q fun K7 k7=>?_;refine rg 0 ?_
  conv=>whnf
  refine k7 _ _ ?_;refine .ret ?_
  conv=>whnf
  have e9:=sj h;subst e9;refine hQ _ _ _ (aF aL (fun g=>rfl) ?_)
  conv=>whnf
 refine .q fun K8 k8=>?_;refine rg 0 ?_
 conv=>whnf
 refine k8 _ _ ?_;refine .block ?_;refine .q fun K9 k9=>?_;refine rg 0 ?_
 conv=>whnf
 refine k9 _ _ ?_;refine .aK rfl hj1 (fun hc2 hj1=>?_) (fun hc2 hj1=>?_)
 ·refine rg 0 ?_
  conv=>whnf
  refine⟨(IntKind.wrap .i64 (p1.hi - p1.lo)),rfl,?_⟩
  conv=>whnf
  refine⟨(IntKind.wrap .i64 ((IntKind.wrap .i64 (p1.hi - p1.lo))+1)),rfl,?_⟩
  conv=>whnf
  exact hR1 _ (sj hj1).symm _ _ (wk [] (.u4 (.u2 (.u (.c rfl (.u64 (.u4 (.u .nil))))))) .nil rfl)
 refine .q fun K10 k10=>?_;refine rg 0 ?_
 conv=>whnf
 refine k10 _ _ ?_;refine .aK rfl hj1 (fun hc3 hj1=>?_) (fun hc3 hj1=>?_)
 ·refine rg 0 ?_
  conv=>whnf
  obtain⟨x1,hx1,hj1⟩:=ob hj1;refine au (vo _ _ _ _ hx1) Wm (.cons (.same _) (.cons (.same _) .nil)) (fun g=>by simp) (fun g=>rfl) ?_
  conv=>whnf
  obtain⟨x2,hx2,hj1⟩:=ob hj1;refine bf (l:=p1.sizes) (f:=encI) (cs:=[.int .i64 (x2)]) hx2 (rfl) rfl ?_
  conv=>whnf
  refine⟨by kernel_rfl,?_⟩
  conv=>whnf
  exact hR1 _ (sj hj1).symm _ _ (wk [] (.u4 (.u2 (.u (.c rfl (.u64 (.u4 (.u .nil))))))) .nil rfl)
 refine .q fun K11 k11=>?_;refine rg 0 ?_
 conv=>whnf
 refine k11 _ _ ?_;refine .aK rfl hj1 (fun hc4 hj1=>?_) (fun hc4 hj1=>?_)
 ·refine .q fun K12 k12=>?_;refine rg 0 ?_
  conv=>whnf
  obtain⟨x3,hx3,hj1⟩:=ob hj1;refine bf (l:=p2.kids) (f:=aC) (cs:=[.int .i64 ((x3).kind),.str ((x3).name),.slice (List.map aC ((x3).kids)) .shared]) hx3 (bZ x3) rfl ?_
  conv=>whnf
  obtain⟨x4,hx4,hj1⟩:=ob hj1;refine au (qbz _ _ _ _ hx4) PU (.cons (.same _) (.cons (.same _) (.cons (.same _) .nil))) (fun g=>by simp) (fun g=>rfl) ?_
  conv=>whnf
  obtain⟨x5,hx5,hj1⟩:=ob hj1;refine bf (l:=p2.kids) (f:=aC) (cs:=[.int .i64 ((x5).kind),.str ((x5).name),.slice (List.map aC ((x5).kids)) .shared]) hx5 (bZ x5) rfl ?_
  conv=>whnf
  obtain⟨x6,hx6,hj1⟩:=ob hj1;refine au (qbz _ _ _ _ hx6) PU (.cons (.same _) (.cons (.same _) (.cons (.same _) .nil))) (fun g=>by simp) (fun g=>rfl) ?_
  conv=>whnf
  refine⟨by kernel_rfl,?_⟩
  conv=>whnf
  refine k12 _ _ ?_;refine .q fun K13 k13=>?_;refine .q fun K14 k14=>?_;obtain⟨s2,hj2,hj1⟩:=ob hj1;have hR2:∀t9 h9,Le 0 t9 h9 (u8 (.int .i64 x4::(.int .i64 x6::(u32 (u8 (u2 (.bool s2::(u16 (u8 []))))))))) []→K14 t9 h9:=by
   intro t9 h9 hw;refine k14 _ _ (AW.le hw ?_);clear hw;refine .aK rfl hj1 (fun hc5 hj1=>?_) (fun hc5 hj1=>?_)
   ·refine .q fun K15 k15=>?_;refine rg 0 ?_
    conv=>whnf
    refine k15 _ _ ?_;refine .ret ?_
    conv=>whnf
    have e9:=sj hj1;subst e9;dsimp only[LR.el]at h;have e9:=sj h;subst e9;refine hQ _ _ _ (aF aL (fun g=>rfl) ?_)
    conv=>whnf
   refine .skip ?_
   conv=>whnf
   refine k13 _ _ ?_;refine rg 0 ?_
   conv=>whnf
   refine⟨(IntKind.wrap .i64 (x4*x6)),rfl,?_⟩
   conv=>whnf
   exact hR1 _ (sj hj1).symm _ _ (li (.u4 (.u2 (.u (.s (.u16 (.u16 (.u16 (.u16 (.u4 (.u .n)))))))))))
  refine rg 0 ?_
  conv=>whnf
  refine aD hj2 (fun hc6 hj2=>?_) (fun hc6 hj2=>?_)
  ·conv=>whnf
   cases hj2;exact hR2 _ _ (wk [] (.u8 (.c rfl (.c rfl (.u32 (.u8 (.u2 (.c rfl (.u16 (.u8 .nil))))))))) .nil rfl)
  conv=>whnf
  cases hj2;exact hR2 _ _ (wk [] (.u8 (.c rfl (.c rfl (.u32 (.u8 (.u2 (.c rfl (.u16 (.u8 .nil))))))))) .nil rfl)
 refine .q fun K16 k16=>?_;refine rg 0 ?_
 conv=>whnf
 refine k16 _ _ ?_;refine .aK rfl hj1 (fun hc7 hj1=>?_) (fun hc7 hj1=>?_)
 ·refine .q fun K17 k17=>?_;refine rg 0 ?_
  conv=>whnf
  obtain⟨x7,hx7,hj1⟩:=ob hj1;refine bf (l:=p2.kids) (f:=aC) (cs:=[.int .i64 ((x7).kind),.str ((x7).name),.slice (List.map aC ((x7).kids)) .shared]) hx7 (bZ x7) rfl ?_
  conv=>whnf
  obtain⟨x8,hx8,hj1⟩:=ob hj1;refine au (qbz _ _ _ _ hx8) PU (.cons (.same _) (.cons (.same _) (.cons (.same _) .nil))) (fun g=>by simp) (fun g=>rfl) ?_
  conv=>whnf
  refine⟨by kernel_rfl,?_⟩
  conv=>whnf
  refine k17 _ _ ?_;refine .q fun K18 k18=>?_;refine .q fun K19 k19=>?_;obtain⟨s3,hj3,hj1⟩:=ob hj1;have hR3:∀t9 h9,Le 0 t9 h9 (u8 (u2 (.int .i64 x8::(u32 (u16 (u8 (u2 (.unk::(.bool s3::(u4 (u2 []))))))))))) []→K19 t9 h9:=by
   intro t9 h9 hw;refine k19 _ _ (AW.le hw ?_);clear hw;refine .aK rfl hj1 (fun hc8 hj1=>?_) (fun hc8 hj1=>?_)
   ·refine .q fun K20 k20=>?_;refine rg 0 ?_
    conv=>whnf
    refine k20 _ _ ?_;refine .ret ?_
    conv=>whnf
    have e9:=sj hj1;subst e9;dsimp only[LR.el]at h;have e9:=sj h;subst e9;refine hQ _ _ _ (aF aL (fun g=>rfl) ?_)
    conv=>whnf
   refine .skip ?_
   conv=>whnf
   refine k18 _ _ ?_;refine rg 0 ?_
   conv=>whnf
   obtain⟨x9,hx9,hj1⟩:=ob hj1;refine aiP hx9 ?_
   conv=>whnf
   exact hR1 _ (sj hj1).symm _ _ (li (.u4 (.u2 (.u (.s (.u16 (.u16 (.u16 (.u16 (.u4 (.u .n)))))))))))
  refine rg 0 ?_
  conv=>whnf
  refine aD hj3 (fun hc9 hj3=>?_) (fun hc9 hj3=>?_)
  ·conv=>whnf
   cases hj3;exact hR3 _ _ (wk [] (.u8 (.u2 (.c rfl (.u32 (.u16 (.u8 (.u2 (.u (.c rfl (.u4 (.u2 .nil))))))))))) .nil rfl)
  conv=>whnf
  cases hj3;exact hR3 _ _ (wk [] (.u8 (.u2 (.c rfl (.u32 (.u16 (.u8 (.u2 (.u (.c rfl (.u4 (.u2 .nil))))))))))) .nil rfl)
 refine .skip ?_
 conv=>whnf
 exact hR1 _ (sj hj1).symm _ _ (wk [] (.u4 (.u2 (.u (.c rfl (.u64 (.u4 (.u .nil))))))) .nil rfl)
theorem ach(n:Nat):qbf (ze n):=by
 induction n with
 |zero=>exact(fun p0 p1 p2 r h=>by unfold ze at h;cases h)
 |succ n ih=>
  exact(fun p0 p1 p2 r h=>Uh n _ ih p0 p1 p2 r (by unfold ze at h;exact h))
theorem Sb(n:Nat):qbf (ze n):=(ach n)
theorem afo(n:Nat)(p0:Env)(p1:S_api_Scope)(p2:Ty)(r:Int)(h:Az n p0 p1 p2=some r):ak Tryz.prog 33 [.agg [.slice (List.map aj p0.carriers) .shared,.slice (List.map aB p0.names) .shared],.agg [.slice (List.map encI p1.sizes) .shared,.int .i64 p1.lo,.int .i64 p1.hi],.agg [.int .i64 p2.kind,.str p2.name,.slice (List.map aC p2.kids) .shared]] [] (.int .i64 r) []:=by
 unfold Az at h;refine aA true Tryz.func33 rfl (by rw[Tryz.ntmps33];exact qAa rfl) fun Q hQ t ht=>?_
 conv at ht=>whnf
 subst ht;refine .q fun K1 k1=>?_;refine rg 3 ?_
 conv=>whnf
 refine k1 _ _ ?_;refine .q fun K2 k2=>?_;refine .q fun K3 k3=>?_;obtain⟨s1,hj1,h⟩:=ob h;have hR1:∀t9 h9,Le 0 t9 h9 (u2 (.unk::(.ptr 0 0::(.ptr 1 0::(.ptr 2 0::(u8 (u4 (u2 (.unk::(.bool s1::(u4 []))))))))))) [.box [.slice (List.map aj p0.carriers) .shared,.slice (List.map aB p0.names) .shared],.box [.slice (List.map encI p1.sizes) .shared,.int .i64 p1.lo,.int .i64 p1.hi],.box [.int .i64 p2.kind,.str p2.name,.slice (List.map aC p2.kids) .shared]]→K3 t9 h9:=by
  intro t9 h9 hw;refine k3 _ _ (AW.le hw ?_);clear hw;refine .aK rfl h (fun hc1 h=>?_) (fun hc1 h=>?_)
  ·refine .q fun K4 k4=>?_;refine rg 0 ?_
   conv=>whnf
   refine k4 _ _ ?_;refine .ret ?_
   conv=>whnf
   have e9:=sj h;subst e9;refine hQ _ _ _ (aF aL (fun g=>rfl) ?_)
   conv=>whnf
  refine .skip ?_
  conv=>whnf
  refine k2 _ _ ?_;refine .q fun K5 k5=>?_;refine rg 0 ?_
  conv=>whnf
  obtain⟨x1,hx1,h⟩:=ob h;refine au (Sb _ _ _ _ _ hx1) PU (.cons (.same _) (.cons (.same _) (.cons (.same _) .nil))) (fun g=>by simp) (fun g=>rfl) ?_
  conv=>whnf
  refine k5 _ _ ?_;refine .ret ?_
  conv=>whnf
  have e9:=sj h;subst e9;refine hQ _ _ _ (aF aL (fun g=>rfl) ?_)
  conv=>whnf
 refine rg 0 ?_
 conv=>whnf
 obtain⟨x2,hx2,hj1⟩:=ob hj1;refine au (Ii _ _ _ _ hx2) ajC (.cons (.same _) (.cons (.same _) .nil)) (fun g=>by simp) (fun g=>rfl) ?_
 conv=>whnf
 refine aD hj1 (fun hc2 hj1=>?_) (fun hc2 hj1=>?_)
 ·conv=>whnf
  cases hj1;exact hR1 _ _ (li (.u2 (.u (.s (.s (.s (.u8 (.u4 (.u2 (.u (.s (.u4 .n))))))))))))
 conv=>whnf
 obtain⟨x3,hx3,hj1⟩:=ob hj1;refine au (yD _ _ _ hx3) Vz (.cons (.same _) .nil) (fun g=>by simp) (fun g=>rfl) ?_
 conv=>whnf
 refine aD hj1 (fun hc3 hj1=>?_) (fun hc3 hj1=>?_)
 ·conv=>whnf
  cases hj1;exact hR1 _ _ (li (.u2 (.u (.s (.s (.s (.u8 (.u4 (.u2 (.u (.s (.u4 .n))))))))))))
 conv=>whnf
 obtain⟨x4,hx4,hj1⟩:=ob hj1;refine au (EC _ _ _ _ hx4) Wd (.cons (.same _) (.cons (.same _) .nil)) (fun g=>by simp) (fun g=>rfl) ?_
 conv=>whnf
 cases hj1;exact hR1 _ _ (li (.u2 (.u (.s (.s (.s (.u8 (.u4 (.u2 (.u (.s (.u4 .n))))))))))))
theorem acy(n:Nat)(p0:Int)(r:Val)(h:ZR n p0=some r):ak Tryz.prog 38 [.int .i64 p0] [] (.agg [.int .i64 r.kind,.int .i64 r.n,.str r.name,.slice (List.map ah r.kids) .shared]) []:=by
 unfold ZR at h;refine aA true Tryz.func38 rfl (by rw[Tryz.ntmps38];exact qAa rfl) fun Q hQ t ht=>?_
 conv at ht=>whnf
 subst ht;refine .q fun K1 k1=>?_;refine rg 1 ?_
 conv=>whnf
 refine k1 _ _ ?_;refine .q fun K2 k2=>?_;refine rg 0 ?_
 conv=>whnf
 refine k2 _ _ ?_;refine .ret ?_
 conv=>whnf
 have e9:=sj h;subst e9;refine hQ _ _ _ (aF aL (fun g=>by simp) ?_)
 conv=>whnf
 try rfl
theorem Sc(n:Nat)(p0:Bool)(r:Val)(h:Lu n p0=some r):ak Tryz.prog 128 [.bool p0] [] (.agg [.int .i64 r.kind,.int .i64 r.n,.str r.name,.slice (List.map ah r.kids) .shared]) []:=by
 unfold Lu at h;refine aA true Tryz.func128 rfl (by rw[Tryz.ntmps128];exact qAa rfl) fun Q hQ t ht=>?_
 conv at ht=>whnf
 subst ht;refine .q fun K1 k1=>?_;refine rg 1 ?_
 conv=>whnf
 refine k1 _ _ ?_;refine .q fun K2 k2=>?_;refine .q fun K3 k3=>?_;refine rg 0 ?_
 conv=>whnf
 refine k3 _ _ ?_;refine .aK rfl h (fun hc1 h=>?_) (fun hc1 h=>?_)
 ·refine .q fun K4 k4=>?_;refine rg 0 ?_
  conv=>whnf
  refine k4 _ _ ?_;refine .ret ?_
  conv=>whnf
  have e9:=sj h;subst e9;refine hQ _ _ _ (aF aL (fun g=>by simp) ?_)
  conv=>whnf
  try rfl
 refine .skip ?_
 conv=>whnf
 refine k2 _ _ ?_;refine .q fun K5 k5=>?_;refine rg 0 ?_
 conv=>whnf
 refine k5 _ _ ?_;refine .ret ?_
 conv=>whnf
 have e9:=sj h;subst e9;refine hQ _ _ _ (aF aL (fun g=>by simp) ?_)
 conv=>whnf
 try rfl
theorem ag4(n:Nat)(p0:Str)(p1:Int)(r:Val)(h:agO n p0 p1=some r):ak Tryz.prog 129 [.str p0,.int .i64 p1] [] (.agg [.int .i64 r.kind,.int .i64 r.n,.str r.name,.slice (List.map ah r.kids) .shared]) []:=by
 unfold agO at h;refine aA true Tryz.func129 rfl (by rw[Tryz.ntmps129];exact qAa rfl) fun Q hQ t ht=>?_
 conv at ht=>whnf
 subst ht;refine .q fun K1 k1=>?_;refine rg 1 ?_
 conv=>whnf
 refine k1 _ _ ?_;refine .q fun K2 k2=>?_;refine rg 0 ?_
 conv=>whnf
 refine k2 _ _ ?_;refine .ret ?_
 conv=>whnf
 have e9:=sj h;subst e9;refine hQ _ _ _ (aF aL (fun g=>by simp) ?_)
 conv=>whnf
 try rfl
theorem ahZ(n:Nat)(p0:Val)(p1:Val)(r:Val)(h:agK n p0 p1=some r):ak Tryz.prog 176 [.agg [.int .i64 p0.kind,.int .i64 p0.n,.str p0.name,.slice (List.map ah p0.kids) .shared],.agg [.int .i64 p1.kind,.int .i64 p1.n,.str p1.name,.slice (List.map ah p1.kids) .shared]] [] (.agg [.int .i64 r.kind,.int .i64 r.n,.str r.name,.slice (List.map ah r.kids) .shared]) []:=by
 unfold agK at h;refine aA true Tryz.func176 rfl (by rw[Tryz.ntmps176];exact qAa rfl) fun Q hQ t ht=>?_
 conv at ht=>whnf
 subst ht;refine .q fun K1 k1=>?_;refine rg 3 ?_
 conv=>whnf
 refine k1 _ _ ?_;refine .q fun K2 k2=>?_;refine rg 1 ?_
 conv=>whnf
 refine⟨List.map ah ([p0,p1]),by simp only[qAA,qAM,aS];try rfl,?_⟩
 conv=>whnf
 refine k2 _ _ ?_;refine .ret ?_
 conv=>whnf
 have e9:=sj h;subst e9;refine hQ _ _ _ (aF aL (fun g=>by simp) ?_)
 conv=>whnf
 try rfl
theorem aaE(n:Nat)(p0:List Val)(p1:List Val)(r:List Val)(h:zM n p0 p1=some r):ak Tryz.prog 130 [.slice (List.map ah p0) .shared,.slice (List.map ah p1) .shared] [] (.slice (List.map ah r) .shared) []:=by
 unfold zM at h;refine aA true Tryz.func130 rfl (by rw[Tryz.ntmps130];exact qAa rfl) fun Q hQ t ht=>?_
 conv at ht=>whnf
 subst ht;refine .q fun K1 k1=>?_;refine rg 0 ?_
 conv=>whnf
 refine k1 _ _ ?_;refine .q fun K2 k2=>?_;refine rg 0 ?_
 conv=>whnf
 refine k2 _ _ ?_;refine .q fun K3 k3=>?_;refine .q fun K4 k4=>?_;refine rg 0 ?_
 conv=>whnf
 refine k4 _ _ ?_;refine .block ?_;obtain⟨o1,ho1,h⟩:=ob h;have hR1:∀s2:List Val,o1=.nx s2→∀t9 h9,Le 0 t9 h9 (u4 (.unk::(.slice (List.map ah s2) (.tip 0 4)::(u16 (u8 (u2 (.unk::[]))))))) [.tip (List.length s2*4)]→K3 t9 h9:=by
  intro s2 ho;subst ho;dsimp only[LR.el]at h;intro t9 h9 hw;refine k3 _ _ (AW.le hw ?_);refine .q fun K5 k5=>?_;refine rg 0 ?_
  conv=>whnf
  refine k5 _ _ ?_;refine .ret ?_
  conv=>whnf
  have e9:=sj h;subst e9;refine hQ _ _ _ (aF aL (fun g=>by simp) ?_)
  conv=>whnf
  try rfl
 refine .loopS (qI n p0 p1) (fun(s1:(List Val)×Int)=>(.slice (List.map ah p0) .shared::(.slice (List.map ah p1) .shared::(u2 (.unk::(.slice (List.map ah s1.1) (.tip 0 4)::(.int .i64 s1.2::(u16 (u8 (u2 [])))))))))) (fun(s1:(List Val)×Int)=>[.tip (List.length s1.1*4)]) ho1 (fun _=>rfl) (wk [none] (.e aH (.e aH (.u2 (.u (.cons (.nils _ _) (.c rfl (.u16 (.u8 (.u2 .nil))))))))) (.w rfl .nil) rfl) ?_;intro n1 s1 hs1 KL1 hKL1;unfold qI at hs1;refine .q fun K6 k6=>?_;refine .q fun K7 k7=>?_;refine rg 0 ?_
 conv=>whnf
 refine aY (l:=p0) (f:=ah) ?_
 conv=>whnf
 refine k7 _ _ ?_;refine .aK rfl hs1 (fun hc1 hs1=>?_) (fun hc1 hs1=>?_)
 ·refine .skip ?_
  conv=>whnf
  refine k6 _ _ ?_;refine .q fun K8 k8=>?_;refine .block ?_;refine .q fun K9 k9=>?_;refine rg 0 ?_
  conv=>whnf
  refine k9 _ _ ?_;refine .block ?_;obtain⟨o2,ho2,hs1⟩:=ob hs1;have hR2:∀s4:List Val,o2=.nx s4→∀t9 h9,Le 0 t9 h9 (.slice (List.map ah p0) .shared::(.slice (List.map ah p1) .shared::(u2 (.unk::(.slice (List.map ah s4) (.tip 0 4)::(.int .i64 s1.2::(u16 (u8 (u2 []))))))))) [.tip (List.length s4*4)]→K8 t9 h9:=by
   intro s4 ho;subst ho;dsimp only[LR.el]at hs1;intro t9 h9 hw;refine k8 _ _ (AW.le hw ?_);refine .know 6 0 fun hv1=>?_;refine .know 0 0 fun hv2=>?_;refine rg 0 ?_
   conv=>whnf
   refine⟨(s1.2+1),by have:=fP hv1;have:=mO hv2;have h8:=of_decide_eq_true hc1;exact bT (by omega) (by omega),?_⟩
   conv=>whnf
   exact hKL1 _ _ _ hs1 (li (.s (.s (.u2 (.u (.s (.s (.u16 (.u8 (.u2 .n))))))))))
  refine .loopS (qG n p0 p1 s1) (fun(s3:(List Val)×Int)=>(.slice (List.map ah p0) .shared::(.slice (List.map ah p1) .shared::(u2 (.unk::(.slice (List.map ah s3.1) (.tip 0 4)::(.int .i64 s1.2::(.int .i64 s3.2::(u16 (u8 (.unk::[]))))))))))) (fun(s3:(List Val)×Int)=>[.tip (List.length s3.1*4)]) ho2 (fun _=>rfl) (li (.s (.s (.u2 (.u (.s (.s (.s (.u16 (.u8 (.u .n))))))))))) ?_;intro n2 s3 hs2 KL2 hKL2;unfold qG at hs2;refine .q fun K10 k10=>?_;refine .q fun K11 k11=>?_;refine rg 0 ?_
  conv=>whnf
  refine aY (l:=p1) (f:=ah) ?_
  conv=>whnf
  refine k11 _ _ ?_;refine .aK rfl hs2 (fun hc2 hs2=>?_) (fun hc2 hs2=>?_)
  ·refine .skip ?_
   conv=>whnf
   refine k10 _ _ ?_;refine .q fun K12 k12=>?_;refine .block ?_;refine rg 2 ?_
   conv=>whnf
   obtain⟨x1,hx1,hs2⟩:=ob hs2;refine bf (l:=p0) (f:=ah) (cs:=[.int .i64 ((x1).kind),.int .i64 ((x1).n),.str ((x1).name),.slice (List.map ah ((x1).kids)) .shared]) hx1 (aS x1) rfl ?_
   conv=>whnf
   obtain⟨x2,hx2,hs2⟩:=ob hs2;refine bf (l:=p1) (f:=ah) (cs:=[.int .i64 ((x2).kind),.int .i64 ((x2).n),.str ((x2).name),.slice (List.map ah ((x2).kids)) .shared]) hx2 (aS x2) rfl ?_
   conv=>whnf
   refine au (ahZ 0 x1 x2 _ rfl) aoB (.cons (.same _) (.cons (.same _) .nil)) (fun g=>by simp) (fun g=>by simp) ?_
   conv=>whnf
   refine⟨List.map ah ([(Val.mk 4 0 ([]:Str) ([x1,x2]))]),by simp only[qAA,qAM,aS];try rfl,?_⟩
   conv=>whnf
   obtain⟨x3,hx3,hs2⟩:=ob hs2;refine jA (l:=s3.1) (ys:=[(Val.mk 4 0 ([]:Str) ([x1,x2]))]) (f:=ah) hx3 kH rfl rfl rfl ?_
   conv=>whnf
   refine⟨by kernel_rfl,?_⟩
   conv=>whnf
   refine k12 _ _ ?_;refine .know 7 0 fun hv3=>?_;refine .know 1 0 fun hv4=>?_;refine rg 0 ?_
   conv=>whnf
   refine⟨(s3.2+1),by have:=fP hv3;have:=mO hv4;have h8:=of_decide_eq_true hc2;exact bT (by omega) (by omega),?_⟩
   conv=>whnf
   exact hKL2 _ _ _ hs2 (wk [some 2] (.e aH (.e aH (.u2 (.u (.cons (.tK (aH _ _) rfl) (.c rfl (.c rfl (.u16 (.u8 (.u .nil)))))))))) (.t rfl .nil) rfl)
  refine .exit ?_
  conv=>whnf
  exact hR2 _ (sj hs2).symm _ _ (li (.s (.s (.u2 (.u (.s (.s (.u16 (.u8 (.u2 .n))))))))))
 refine .exit ?_
 conv=>whnf
 exact hR1 _ (sj hs1).symm _ _ (li (.u4 (.u (.s (.u16 (.u8 (.u2 (.u .n))))))))
abbrev qbe(qdt:(List Val)→(List Val)→Int→Option (List Val)):Prop:=∀(p0:List Val) (p1:List Val) (p2:Int) (r:List Val),qdt p0 p1 p2=some r→ak Tryz.prog 131 [.slice (List.map ah p0) .shared,.slice (List.map ah p1) .shared,.int .i64 p2] [] (.slice (List.map ah r) .shared) []
theorem Rz(n:Nat)(qdt:(List Val)→(List Val)→Int→Option (List Val))(qby:qbe qdt)(p0:List Val)(p1:List Val)(p2:Int)(r:List Val)(h:vG n qdt p0 p1 p2=some r):ak Tryz.prog 131 [.slice (List.map ah p0) .shared,.slice (List.map ah p1) .shared,.int .i64 p2] [] (.slice (List.map ah r) .shared) []:=by
 unfold vG at h;refine aA true Tryz.func131 rfl (by rw[Tryz.ntmps131];exact qAa rfl) fun Q hQ t ht=>?_
 conv at ht=>whnf
 subst ht;refine .q fun K1 k1=>?_;refine rg 0 ?_
 conv=>whnf
 refine k1 _ _ ?_;refine .q fun K2 k2=>?_;refine rg 1 ?_
 conv=>whnf
 refine⟨List.map ah ([(Val.mk 5 0 ([]:Str) p0)]),by simp only[qAA,qAM,aS];try rfl,?_⟩
 conv=>whnf
 refine k2 _ _ ?_;refine .q fun K3 k3=>?_;refine .q fun K4 k4=>?_;refine rg 0 ?_
 conv=>whnf
 refine k4 _ _ ?_;refine .block ?_;obtain⟨o1,ho1,h⟩:=ob h;have hR1:∀s2:List Val,o1=.nx s2→∀t9 h9,Le 0 t9 h9 (u4 (u2 (.unk::(.slice (List.map ah s2) (.tip 0 4)::(u16 (u8 (u2 (.unk::[])))))))) [.tip (List.length s2*4)]→K3 t9 h9:=by
  intro s2 ho;subst ho;dsimp only[LR.el]at h;intro t9 h9 hw;refine k3 _ _ (AW.le hw ?_);refine .q fun K5 k5=>?_;refine rg 0 ?_
  conv=>whnf
  refine k5 _ _ ?_;refine .ret ?_
  conv=>whnf
  have e9:=sj h;subst e9;refine hQ _ _ _ (aF aL (fun g=>by simp) ?_)
  conv=>whnf
  try rfl
 refine .loopS (sN n qdt p0 p1) (fun(s1:(List Val)×Int)=>(.slice (List.map ah p0) .shared::(.slice (List.map ah p1) .shared::(u4 (.unk::(.slice (List.map ah s1.1) (.tip 0 4)::(.int .i64 s1.2::(u16 (u8 (u2 [])))))))))) (fun(s1:(List Val)×Int)=>[.tip (List.length s1.1*4)]) ho1 (fun _=>rfl) (li (.s (.s (.u4 (.u (.s (.s (.u16 (.u8 (.u2 .n)))))))))) ?_;intro n1 s1 hs1 KL1 hKL1;unfold sN at hs1;refine .q fun K6 k6=>?_;refine .q fun K7 k7=>?_;refine rg 0 ?_
 conv=>whnf
 refine aY (l:=p1) (f:=ah) ?_
 conv=>whnf
 refine k7 _ _ ?_;refine .aK rfl hs1 (fun hc1 hs1=>?_) (fun hc1 hs1=>?_)
 ·refine .skip ?_
  conv=>whnf
  refine k6 _ _ ?_;refine .q fun K8 k8=>?_;refine .block ?_;refine .know 8 0 fun hv1=>?_;refine .know 1 0 fun hv2=>?_;refine rg 5 ?_
  conv=>whnf
  refine⟨List.map ah ([]:List Val),by simp only[qAA,qAM,aS];try rfl,?_⟩
  conv=>whnf
  obtain⟨x1,hx1,hs1⟩:=ob hs1;refine jA (l:=([]:List Val)) (ys:=p0) (f:=ah) hx1 kH rfl rfl rfl ?_
  conv=>whnf
  obtain⟨x2,hx2,hs1⟩:=ob hs1;refine bf (l:=p1) (f:=ah) (cs:=[.int .i64 ((x2).kind),.int .i64 ((x2).n),.str ((x2).name),.slice (List.map ah ((x2).kids)) .shared]) hx2 (aS x2) rfl ?_
  conv=>whnf
  refine⟨List.map ah ([x2]),by simp only[qAA,qAM,aS];try rfl,?_⟩
  conv=>whnf
  obtain⟨x3,hx3,hs1⟩:=ob hs1;refine jA (l:=x1) (ys:=[x2]) (f:=ah) hx3 kH rfl rfl rfl ?_
  conv=>whnf
  refine⟨(s1.2+1),by have:=fP hv1;have:=mO hv2;have h8:=of_decide_eq_true hc1;exact bT (by omega) (by omega),?_⟩
  conv=>whnf
  obtain⟨x4,hx4,hs1⟩:=ob hs1;refine au (qby _ _ _ _ hx4) aga (.cons (.share _ _) (.cons (.same _) (.cons (.same _) .nil))) (fun g=>by simp) (fun g=>by simp) ?_
  conv=>whnf
  obtain⟨x5,hx5,hs1⟩:=ob hs1;refine jA (l:=s1.1) (ys:=x4) (f:=ah) hx5 kH rfl rfl rfl ?_
  conv=>whnf
  refine⟨by kernel_rfl,?_⟩
  conv=>whnf
  refine k8 _ _ ?_;refine .know 8 0 fun hv3=>?_;refine .know 1 0 fun hv4=>?_;refine rg 0 ?_
  conv=>whnf
  refine⟨(s1.2+1),by have:=fP hv3;have:=mO hv4;have h8:=of_decide_eq_true hc1;exact bT (by omega) (by omega),?_⟩
  conv=>whnf
  exact hKL1 _ _ _ hs1 (wk [some 5] (.e aH (.e aH (.u4 (.u (.cons (.tK (aH _ _) rfl) (.c rfl (.u16 (.u8 (.u2 .nil))))))))) (.t rfl .nil) rfl)
 refine .exit ?_
 conv=>whnf
 exact hR1 _ (sj hs1).symm _ _ (li (.u4 (.u2 (.u (.s (.u16 (.u8 (.u2 (.u .n)))))))))
theorem aaK(n:Nat):qbe (qp n):=by
 induction n with
 |zero=>exact(fun p0 p1 p2 r h=>by unfold qp at h;cases h)
 |succ n ih=>
  exact(fun p0 p1 p2 r h=>Rz n _ ih p0 p1 p2 r (by unfold qp at h;exact h))
theorem aeh(n:Nat):qbe (qp n):=(aaK n)
abbrev qbg(qdv:Env→S_api_Scope→Ty→Option (List Val)):Prop:=∀(p0:Env) (p1:S_api_Scope) (p2:Ty) (r:List Val),qdv p0 p1 p2=some r→ak Tryz.prog 75 [.agg [.slice (List.map aj p0.carriers) .shared,.slice (List.map aB p0.names) .shared],.agg [.slice (List.map encI p1.sizes) .shared,.int .i64 p1.lo,.int .i64 p1.hi],.agg [.int .i64 p2.kind,.str p2.name,.slice (List.map aC p2.kids) .shared]] [] (.slice (List.map ah r) .shared) []
theorem RJ(n:Nat)(qdv:Env→S_api_Scope→Ty→Option (List Val))(qb0:qbg qdv)(p0:Env)(p1:S_api_Scope)(p2:Ty)(r:List Val)(h:iq n qdv p0 p1 p2=some r):ak Tryz.prog 75 [.agg [.slice (List.map aj p0.carriers) .shared,.slice (List.map aB p0.names) .shared],.agg [.slice (List.map encI p1.sizes) .shared,.int .i64 p1.lo,.int .i64 p1.hi],.agg [.int .i64 p2.kind,.str p2.name,.slice (List.map aC p2.kids) .shared]] [] (.slice (List.map ah r) .shared) []:=by
 unfold iq at h;refine aA true Tryz.func75 rfl (by rw[Tryz.ntmps75];exact qAa rfl) fun Q hQ t ht=>?_
 conv at ht=>whnf
 subst ht;refine .q fun K1 k1=>?_;refine rg 3 ?_
 conv=>whnf
 refine k1 _ _ ?_;refine .q fun K2 k2=>?_;refine rg 0 ?_
 conv=>whnf
 refine k2 _ _ ?_;refine .q fun K3 k3=>?_;obtain⟨s1,hj1,h⟩:=ob h;have hR1:∀t9 h9,Le 0 t9 h9 (u4 (u2 (.unk::(.slice (List.map ah s1) .shared::(u64 (u8 (.unk::[]))))))) []→K3 t9 h9:=by
  intro t9 h9 hw;refine k3 _ _ (AW.le hw ?_);clear hw;refine .q fun K4 k4=>?_;refine rg 0 ?_
  conv=>whnf
  refine k4 _ _ ?_;refine .ret ?_
  conv=>whnf
  have e9:=sj h;subst e9;refine hQ _ _ _ (aF aL (fun g=>by simp) ?_)
  conv=>whnf
  try rfl
 refine .q fun K5 k5=>?_;refine rg 0 ?_
 conv=>whnf
 refine k5 _ _ ?_;refine .block ?_;refine .q fun K6 k6=>?_;refine rg 0 ?_
 conv=>whnf
 refine k6 _ _ ?_;refine .aK rfl hj1 (fun hc1 hj1=>?_) (fun hc1 hj1=>?_)
 ·refine .q fun K7 k7=>?_;refine rg 0 ?_
  conv=>whnf
  refine k7 _ _ ?_;refine .block ?_;obtain⟨o1,ho1,hj1⟩:=ob hj1;have hR2:∀s3:List Val,o1=.nx s3→∀t9 h9,Le 0 t9 h9 (u4 (u2 (.unk::(.slice (List.map ah s3) (.tip 0 4)::(u64 (u8 (.unk::[]))))))) [.tip (List.length s3*4)]→K3 t9 h9:=by
   intro s3 ho;subst ho;dsimp only[LR.el]at hj1;intro t9 h9 hw;cases hj1;exact hR1 _ _ (hw.trans (wk [] (.u4 (.u2 (.u (.e aH (.u64 (.u8 (.u .nil))))))) .nil rfl))
  refine .loopS (sM n qdv p1) (fun(s2:(List Val)×Int)=>(u4 (.ptr 0 0::(u2 (.slice (List.map ah s2.1) (.tip 1 4)::(.int .i64 s2.2::(u64 (u8 [])))))))) (fun(s2:(List Val)×Int)=>[.box [.slice (List.map encI p1.sizes) .shared,.int .i64 p1.lo,.int .i64 p1.hi],.tip (List.length s2.1*4)]) ho1 (fun _=>rfl) (wk [some 1,none] (.u4 (.c rfl (.u2 (.cons (.nils _ _) (.c rfl (.u64 (.u8 .nil))))))) (.b rfl (.e bP (.c rfl (.c rfl .nil))) (.w rfl .nil)) rfl) ?_;intro n1 s2 hs1 KL1 hKL1;unfold sM at hs1;refine .q fun K8 k8=>?_;refine .q fun K9 k9=>?_;refine rg 0 ?_
  conv=>whnf
  refine k9 _ _ ?_;refine .aK rfl hs1 (fun hc2 hs1=>?_) (fun hc2 hs1=>?_)
  ·refine .skip ?_
   conv=>whnf
   refine k8 _ _ ?_;refine .q fun K10 k10=>?_;refine .block ?_;refine rg 2 ?_
   conv=>whnf
   refine au (acy 0 s2.2 _ rfl) ao0 (.cons (.same _) .nil) (fun g=>rfl) (fun g=>by simp) ?_
   conv=>whnf
   refine⟨List.map ah ([(Val.mk 1 s2.2 ([]:Str) ([]))]),by simp only[qAA,qAM,aS];try rfl,?_⟩
   conv=>whnf
   obtain⟨x1,hx1,hs1⟩:=ob hs1;refine jA (l:=s2.1) (ys:=[(Val.mk 1 s2.2 ([]:Str) ([]))]) (f:=ah) hx1 kH rfl rfl rfl ?_
   conv=>whnf
   refine k10 _ _ ?_;refine rg 0 ?_
   conv=>whnf
   refine⟨(IntKind.wrap .i64 (s2.2+1)),rfl,?_⟩
   conv=>whnf
   exact hKL1 _ _ _ hs1 (wk [some 0,some 3] (.u4 (.c rfl (.u2 (.cons (.tK (aH _ _) rfl) (.c rfl (.u64 (.u8 .nil))))))) (.b rfl (.e bP (.c rfl (.c rfl .nil))) (.t rfl .nil)) rfl)
  refine .exit ?_
  conv=>whnf
  exact hR2 _ (sj hs1).symm _ _ (wk [some 1] (.u4 (.u2 (.u (.cons (.tK (aH _ _) rfl) (.u64 (.u8 (.u .nil))))))) (.t rfl .nil) rfl)
 refine .q fun K11 k11=>?_;refine rg 0 ?_
 conv=>whnf
 refine k11 _ _ ?_;refine .aK rfl hj1 (fun hc3 hj1=>?_) (fun hc3 hj1=>?_)
 ·refine rg 1 ?_
  conv=>whnf
  obtain⟨x2,hx2,hj1⟩:=ob hj1;refine au (Sc _ _ _ hx2) agN (.cons (.same _) .nil) (fun g=>rfl) (fun g=>by simp) ?_
  conv=>whnf
  obtain⟨x3,hx3,hj1⟩:=ob hj1;refine au (Sc _ _ _ hx3) agN (.cons (.same _) .nil) (fun g=>rfl) (fun g=>by simp) ?_
  conv=>whnf
  refine⟨List.map ah ([x2,x3]),by simp only[qAA,qAM,aS];try rfl,?_⟩
  conv=>whnf
  cases hj1;exact hR1 _ _ (wk [] (.u4 (.u2 (.u (.e aH (.u64 (.u8 (.u .nil))))))) .nil rfl)
 refine .q fun K12 k12=>?_;refine rg 0 ?_
 conv=>whnf
 refine k12 _ _ ?_;refine .aK rfl hj1 (fun hc4 hj1=>?_) (fun hc4 hj1=>?_)
 ·refine .q fun K13 k13=>?_;refine rg 0 ?_
  conv=>whnf
  refine k13 _ _ ?_;refine .block ?_;obtain⟨o2,ho2,hj1⟩:=ob hj1;have hR3:∀s5:List Val,o2=.nx s5→∀t9 h9,Le 0 t9 h9 (u4 (u2 (.unk::(.slice (List.map ah s5) (.tip 0 4)::(u64 (u8 (.unk::[]))))))) [.tip (List.length s5*4)]→K3 t9 h9:=by
   intro s5 ho;subst ho;dsimp only[LR.el]at hj1;intro t9 h9 hw;cases hj1;exact hR1 _ _ (hw.trans (wk [] (.u4 (.u2 (.u (.e aH (.u64 (.u8 (.u .nil))))))) .nil rfl))
  refine .loopS (sU n qdv p0 p1 p2) (fun(s4:(List Val)×Int)=>(u2 (.unk::(.ptr 0 0::(.ptr 1 0::(.ptr 2 0::(.unk::(.slice (List.map ah s4.1) (.tip 3 4)::(.unk::(.int .i64 s4.2::(u64 (u4 (u2 (.unk::[])))))))))))))) (fun(s4:(List Val)×Int)=>[.box [.slice (List.map aj p0.carriers) .shared,.slice (List.map aB p0.names) .shared],.box [.slice (List.map encI p1.sizes) .shared,.int .i64 p1.lo,.int .i64 p1.hi],.box [.int .i64 p2.kind,.str p2.name,.slice (List.map aC p2.kids) .shared],.tip (List.length s4.1*4)]) ho2 (fun _=>rfl) (wk [some 0,some 1,some 2,none] (.u2 (.u (.c rfl (.c rfl (.c rfl (.u (.cons (.nils _ _) (.u (.c rfl (.u64 (.u4 (.u2 (.u .nil))))))))))))) (.b rfl (.e aJ (.e aQ .nil)) (.b rfl (.e bP (.c rfl (.c rfl .nil))) (.b rfl (.c rfl (.c rfl (.e bK .nil))) (.w rfl .nil)))) rfl) ?_;intro n2 s4 hs2 KL2 hKL2;unfold sU at hs2;refine .q fun K14 k14=>?_;refine .q fun K15 k15=>?_;refine rg 0 ?_
  conv=>whnf
  obtain⟨x4,hx4,hs2⟩:=ob hs2;refine au (vo _ _ _ _ hx4) Wm (.cons (.same _) (.cons (.same _) .nil)) (fun g=>by simp) (fun g=>rfl) ?_
  conv=>whnf
  obtain⟨x5,hx5,hs2⟩:=ob hs2;refine bf (l:=p1.sizes) (f:=encI) (cs:=[.int .i64 (x5)]) hx5 (rfl) rfl ?_
  conv=>whnf
  refine⟨by kernel_rfl,?_⟩
  conv=>whnf
  refine k15 _ _ ?_;refine .aK rfl hs2 (fun hc5 hs2=>?_) (fun hc5 hs2=>?_)
  ·refine .skip ?_
   conv=>whnf
   refine k14 _ _ ?_;refine .q fun K16 k16=>?_;refine .block ?_;refine rg 2 ?_
   conv=>whnf
   refine au (ag4 0 p2.name s4.2 _ rfl) aot (.cons (.same _) (.cons (.same _) .nil)) (fun g=>rfl) (fun g=>by simp) ?_
   conv=>whnf
   refine⟨List.map ah ([(Val.mk 3 s4.2 p2.name ([]))]),by simp only[qAA,qAM,aS];try rfl,?_⟩
   conv=>whnf
   obtain⟨x6,hx6,hs2⟩:=ob hs2;refine jA (l:=s4.1) (ys:=[(Val.mk 3 s4.2 p2.name ([]))]) (f:=ah) hx6 kH rfl rfl rfl ?_
   conv=>whnf
   refine k16 _ _ ?_;refine .know 9 0 fun hv1=>?_;refine .know 41 0 fun hv2=>?_;refine rg 0 ?_
   conv=>whnf
   refine⟨(s4.2+1),by have:=fP hv1;have:=fP hv2;have h8:=of_decide_eq_true hc5;exact bT (by omega) (by omega),?_⟩
   conv=>whnf
   exact hKL2 _ _ _ hs2 (wk [some 0,some 1,some 2,some 5] (.u2 (.u (.c rfl (.c rfl (.c rfl (.u (.cons (.tK (aH _ _) rfl) (.u (.c rfl (.u64 (.u4 (.u2 (.u .nil))))))))))))) (.b rfl (.e aJ (.e aQ .nil)) (.b rfl (.e bP (.c rfl (.c rfl .nil))) (.b rfl (.c rfl (.c rfl (.e bK .nil))) (.t rfl .nil)))) rfl)
  refine .exit ?_
  conv=>whnf
  exact hR3 _ (sj hs2).symm _ _ (wk [some 3] (.u4 (.u2 (.u (.cons (.tK (aH _ _) rfl) (.u64 (.u8 (.u .nil))))))) (.t rfl .nil) rfl)
 refine .q fun K17 k17=>?_;refine rg 0 ?_
 conv=>whnf
 refine k17 _ _ ?_;refine .aK rfl hj1 (fun hc6 hj1=>?_) (fun hc6 hj1=>?_)
 ·refine rg 0 ?_
  conv=>whnf
  obtain⟨x7,hx7,hj1⟩:=ob hj1;refine bf (l:=p2.kids) (f:=aC) (cs:=[.int .i64 ((x7).kind),.str ((x7).name),.slice (List.map aC ((x7).kids)) .shared]) hx7 (bZ x7) rfl ?_
  conv=>whnf
  obtain⟨x8,hx8,hj1⟩:=ob hj1;refine au (qb0 _ _ _ _ hx8) VT (.cons (.same _) (.cons (.same _) (.cons (.same _) .nil))) (fun g=>by simp) (fun g=>by simp) ?_
  conv=>whnf
  obtain⟨x9,hx9,hj1⟩:=ob hj1;refine bf (l:=p2.kids) (f:=aC) (cs:=[.int .i64 ((x9).kind),.str ((x9).name),.slice (List.map aC ((x9).kids)) .shared]) hx9 (bZ x9) rfl ?_
  conv=>whnf
  obtain⟨x10,hx10,hj1⟩:=ob hj1;refine au (qb0 _ _ _ _ hx10) VT (.cons (.same _) (.cons (.same _) (.cons (.same _) .nil))) (fun g=>by simp) (fun g=>by simp) ?_
  conv=>whnf
  obtain⟨x11,hx11,hj1⟩:=ob hj1;refine au (aaE _ _ _ _ hx11) anE (.cons (.same _) (.cons (.same _) .nil)) (fun g=>by simp) (fun g=>by simp) ?_
  conv=>whnf
  refine⟨by kernel_rfl,?_⟩
  conv=>whnf
  cases hj1;exact hR1 _ _ (wk [] (.u4 (.u2 (.u (.e aH (.u64 (.u8 (.u .nil))))))) .nil rfl)
 refine .q fun K18 k18=>?_;refine rg 0 ?_
 conv=>whnf
 refine k18 _ _ ?_;refine .aK rfl hj1 (fun hc7 hj1=>?_) (fun hc7 hj1=>?_)
 ·refine rg 0 ?_
  conv=>whnf
  obtain⟨x12,hx12,hj1⟩:=ob hj1;refine bf (l:=p2.kids) (f:=aC) (cs:=[.int .i64 ((x12).kind),.str ((x12).name),.slice (List.map aC ((x12).kids)) .shared]) hx12 (bZ x12) rfl ?_
  conv=>whnf
  obtain⟨x13,hx13,hj1⟩:=ob hj1;refine au (qb0 _ _ _ _ hx13) VT (.cons (.same _) (.cons (.same _) (.cons (.same _) .nil))) (fun g=>by simp) (fun g=>by simp) ?_
  conv=>whnf
  obtain⟨x14,hx14,hj1⟩:=ob hj1;refine au (aeh _ _ _ _ _ hx14) aga (.cons (.share _ _) (.cons (.same _) (.cons (.same _) .nil))) (fun g=>by simp) (fun g=>by simp) ?_
  conv=>whnf
  refine⟨by kernel_rfl,?_⟩
  conv=>whnf
  cases hj1;exact hR1 _ _ (wk [] (.u4 (.u2 (.u (.e aH (.u64 (.u8 (.u .nil))))))) .nil rfl)
 refine .skip ?_
 conv=>whnf
 cases hj1;exact hR1 _ _ (wk [] (.u4 (.u2 (.u (.cons (.share rfl) (.u64 (.u8 (.u .nil))))))) .nil rfl)
theorem aaX(n:Nat):qbg (tQ n):=by
 induction n with
 |zero=>exact(fun p0 p1 p2 r h=>by unfold tQ at h;cases h)
 |succ n ih=>
  exact(fun p0 p1 p2 r h=>RJ n _ ih p0 p1 p2 r (by unfold tQ at h;exact h))
theorem adF(n:Nat):qbg (tQ n):=(aaX n)
theorem aew(n:Nat)(p0:Env)(p1:S_api_Scope)(p2:Ty)(r:(List Val)×Int)(h:uK n p0 p1 p2=some r):ak Tryz.prog 35 [.agg [.slice (List.map aj p0.carriers) .shared,.slice (List.map aB p0.names) .shared],.agg [.slice (List.map encI p1.sizes) .shared,.int .i64 p1.lo,.int .i64 p1.hi],.agg [.int .i64 p2.kind,.str p2.name,.slice (List.map aC p2.kids) .shared]] [] (.tup [.slice (List.map ah r.1) .shared,.int .i64 r.2]) []:=by
 unfold uK at h;refine aA true Tryz.func35 rfl (by rw[Tryz.ntmps35];exact qAa rfl) fun Q hQ t ht=>?_
 conv at ht=>whnf
 subst ht;refine .q fun K1 k1=>?_;refine rg 3 ?_
 conv=>whnf
 refine k1 _ _ ?_;refine .q fun K2 k2=>?_;refine .q fun K3 k3=>?_;obtain⟨s1,hj1,h⟩:=ob h;have hR1:∀t9 h9,Le 0 t9 h9 (u2 (.unk::(.ptr 0 0::(.ptr 1 0::(.ptr 2 0::(u16 (.bool s1::(u8 (.unk::[]))))))))) [.box [.slice (List.map aj p0.carriers) .shared,.slice (List.map aB p0.names) .shared],.box [.slice (List.map encI p1.sizes) .shared,.int .i64 p1.lo,.int .i64 p1.hi],.box [.int .i64 p2.kind,.str p2.name,.slice (List.map aC p2.kids) .shared]]→K3 t9 h9:=by
  intro t9 h9 hw;refine k3 _ _ (AW.le hw ?_);clear hw;refine .aK rfl h (fun hc1 h=>?_) (fun hc1 h=>?_)
  ·refine .q fun K4 k4=>?_;refine rg 0 ?_
   conv=>whnf
   refine k4 _ _ ?_;refine .ret ?_
   conv=>whnf
   have e9:=sj h;subst e9;refine hQ _ _ _ (aF aL (fun g=>by simp) ?_)
   conv=>whnf
   try rfl
  refine .skip ?_
  conv=>whnf
  refine k2 _ _ ?_;refine .q fun K5 k5=>?_;refine .q fun K6 k6=>?_;refine rg 0 ?_
  conv=>whnf
  obtain⟨x1,hx1,h⟩:=ob h;refine au (Sb _ _ _ _ _ hx1) PU (.cons (.same _) (.cons (.same _) (.cons (.same _) .nil))) (fun g=>by simp) (fun g=>rfl) ?_
  conv=>whnf
  refine k6 _ _ ?_;refine .aK rfl h (fun hc2 h=>?_) (fun hc2 h=>?_)
  ·refine .q fun K7 k7=>?_;refine rg 0 ?_
   conv=>whnf
   refine k7 _ _ ?_;refine .ret ?_
   conv=>whnf
   have e9:=sj h;subst e9;refine hQ _ _ _ (aF aL (fun g=>by simp) ?_)
   conv=>whnf
   try rfl
  refine .skip ?_
  conv=>whnf
  refine k5 _ _ ?_;refine .q fun K8 k8=>?_;refine rg 0 ?_
  conv=>whnf
  obtain⟨x2,hx2,h⟩:=ob h;refine au (adF _ _ _ _ _ hx2) VT (.cons (.same _) (.cons (.same _) (.cons (.same _) .nil))) (fun g=>by simp) (fun g=>by simp) ?_
  conv=>whnf
  refine k8 _ _ ?_;refine .ret ?_
  conv=>whnf
  have e9:=sj h;subst e9;refine hQ _ _ _ (aF aL (fun g=>by simp) ?_)
  conv=>whnf
  try rfl
 refine rg 0 ?_
 conv=>whnf
 obtain⟨x3,hx3,hj1⟩:=ob hj1;refine au (Ii _ _ _ _ hx3) ajC (.cons (.same _) (.cons (.same _) .nil)) (fun g=>by simp) (fun g=>rfl) ?_
 conv=>whnf
 refine aD hj1 (fun hc3 hj1=>?_) (fun hc3 hj1=>?_)
 ·conv=>whnf
  cases hj1;exact hR1 _ _ (li (.u2 (.u (.s (.s (.s (.u16 (.s (.u8 (.u .n))))))))))
 conv=>whnf
 obtain⟨x4,hx4,hj1⟩:=ob hj1;refine au (yD _ _ _ hx4) Vz (.cons (.same _) .nil) (fun g=>by simp) (fun g=>rfl) ?_
 conv=>whnf
 refine aD hj1 (fun hc4 hj1=>?_) (fun hc4 hj1=>?_)
 ·conv=>whnf
  cases hj1;exact hR1 _ _ (li (.u2 (.u (.s (.s (.s (.u16 (.s (.u8 (.u .n))))))))))
 conv=>whnf
 obtain⟨x5,hx5,hj1⟩:=ob hj1;refine au (EC _ _ _ _ hx5) Wd (.cons (.same _) (.cons (.same _) .nil)) (fun g=>by simp) (fun g=>rfl) ?_
 conv=>whnf
 cases hj1;exact hR1 _ _ (li (.u2 (.u (.s (.s (.s (.u16 (.s (.u8 (.u .n))))))))))
theorem aaV(n:Nat)(p0:Bool)(r:Val)(h:L8 n p0=some r):ak Tryz.prog 123 [.bool p0] [] (.agg [.int .i64 r.kind,.int .i64 r.n,.str r.name,.slice (List.map ah r.kids) .shared]) []:=by
 unfold L8 at h;refine aA true Tryz.func123 rfl (by rw[Tryz.ntmps123];exact qAa rfl) fun Q hQ t ht=>?_
 conv at ht=>whnf
 subst ht;refine .q fun K1 k1=>?_;refine rg 1 ?_
 conv=>whnf
 refine k1 _ _ ?_;refine .q fun K2 k2=>?_;refine .q fun K3 k3=>?_;refine rg 0 ?_
 conv=>whnf
 refine k3 _ _ ?_;refine .aK rfl h (fun hc1 h=>?_) (fun hc1 h=>?_)
 ·refine .q fun K4 k4=>?_;refine rg 0 ?_
  conv=>whnf
  refine k4 _ _ ?_;refine .ret ?_
  conv=>whnf
  have e9:=sj h;subst e9;refine hQ _ _ _ (aF aL (fun g=>by simp) ?_)
  conv=>whnf
  try rfl
 refine .skip ?_
 conv=>whnf
 refine k2 _ _ ?_;refine .q fun K5 k5=>?_;refine rg 0 ?_
 conv=>whnf
 refine k5 _ _ ?_;refine .ret ?_
 conv=>whnf
 have e9:=sj h;subst e9;refine hQ _ _ _ (aF aL (fun g=>by simp) ?_)
 conv=>whnf
 try rfl
theorem abI(n:Nat)(p0:Val)(p1:Val)(r:Val)(h:aau n p0 p1=some r):ak Tryz.prog 125 [.agg [.int .i64 p0.kind,.int .i64 p0.n,.str p0.name,.slice (List.map ah p0.kids) .shared],.agg [.int .i64 p1.kind,.int .i64 p1.n,.str p1.name,.slice (List.map ah p1.kids) .shared]] [] (.agg [.int .i64 r.kind,.int .i64 r.n,.str r.name,.slice (List.map ah r.kids) .shared]) []:=by
 unfold aau at h;refine aA true Tryz.func125 rfl (by rw[Tryz.ntmps125];exact qAa rfl) fun Q hQ t ht=>?_
 conv at ht=>whnf
 subst ht;refine .q fun K1 k1=>?_;refine rg 3 ?_
 conv=>whnf
 refine k1 _ _ ?_;refine .q fun K2 k2=>?_;refine rg 1 ?_
 conv=>whnf
 refine⟨List.map ah ([p0,p1]),by simp only[qAA,qAM,aS];try rfl,?_⟩
 conv=>whnf
 refine k2 _ _ ?_;refine .ret ?_
 conv=>whnf
 have e9:=sj h;subst e9;refine hQ _ _ _ (aF aL (fun g=>by simp) ?_)
 conv=>whnf
 try rfl
theorem Tg(n:Nat)(p0:Str)(p1:Int)(r:List Val)(h:jV n p0 p1=some r):ak Tryz.prog 124 [.str p0,.int .i64 p1] [] (.slice (List.map ah r) .shared) []:=by
 unfold jV at h;refine aA true Tryz.func124 rfl (by rw[Tryz.ntmps124];exact qAa rfl) fun Q hQ t ht=>?_
 conv at ht=>whnf
 subst ht;refine .q fun K1 k1=>?_;refine rg 0 ?_
 conv=>whnf
 refine k1 _ _ ?_;refine .q fun K2 k2=>?_;refine rg 0 ?_
 conv=>whnf
 refine k2 _ _ ?_;refine .q fun K3 k3=>?_;refine .q fun K4 k4=>?_;refine rg 0 ?_
 conv=>whnf
 refine k4 _ _ ?_;refine .block ?_;obtain⟨o1,ho1,h⟩:=ob h;have hR1:∀s2:List Val,o1=.nx s2→∀t9 h9,Le 0 t9 h9 (u4 (.unk::(.slice (List.map ah s2) (.tip 0 4)::(u8 (u4 (.unk::[])))))) [.tip (List.length s2*4)]→K3 t9 h9:=by
  intro s2 ho;subst ho;dsimp only[LR.el]at h;intro t9 h9 hw;refine k3 _ _ (AW.le hw ?_);refine .q fun K5 k5=>?_;refine rg 0 ?_
  conv=>whnf
  refine k5 _ _ ?_;refine .ret ?_
  conv=>whnf
  have e9:=sj h;subst e9;refine hQ _ _ _ (aF aL (fun g=>by simp) ?_)
  conv=>whnf
  try rfl
 refine .loopS (ng n p0 p1) (fun(s1:(List Val)×Int)=>(.str p0::(u4 (.slice (List.map ah s1.1) (.tip 0 4)::(.unk::(.int .i64 p1::(.int .i64 s1.2::(u8 (u2 []))))))))) (fun(s1:(List Val)×Int)=>[.tip (List.length s1.1*4)]) ho1 (fun _=>rfl) (wk [none] (.c rfl (.u4 (.cons (.nils _ _) (.u (.c rfl (.c rfl (.u8 (.u2 .nil)))))))) (.w rfl .nil) rfl) ?_;intro n1 s1 hs1 KL1 hKL1;unfold ng at hs1;refine .q fun K6 k6=>?_;refine rg 0 ?_
 conv=>whnf
 refine k6 _ _ ?_;refine .q fun K7 k7=>?_;refine .aK rfl hs1 (fun hc1 hs1=>?_) (fun hc1 hs1=>?_)
 ·refine .skip ?_
  conv=>whnf
  refine k7 _ _ ?_;refine .q fun K8 k8=>?_;refine .block ?_;refine .q fun K9 k9=>?_;refine rg 0 ?_
  conv=>whnf
  refine k9 _ _ ?_;refine rg 2 ?_
  conv=>whnf
  refine⟨List.map ah ([(Val.mk 3 s1.2 p0 ([]))]),by simp only[qAA,qAM,aS];try rfl,?_⟩
  conv=>whnf
  obtain⟨x1,hx1,hs1⟩:=ob hs1;refine jA (l:=s1.1) (ys:=[(Val.mk 3 s1.2 p0 ([]))]) (f:=ah) hx1 kH rfl rfl rfl ?_
  conv=>whnf
  refine k8 _ _ ?_;refine .know 6 0 fun hv1=>?_;refine .know 7 0 fun hv2=>?_;refine rg 0 ?_
  conv=>whnf
  refine⟨(s1.2+1),by have:=fP hv1;have:=fP hv2;have h8:=of_decide_eq_true hc1;exact bT (by omega) (by omega),?_⟩
  conv=>whnf
  exact hKL1 _ _ _ hs1 (wk [some 2] (.c rfl (.u4 (.cons (.tK (aH _ _) rfl) (.u (.c rfl (.c rfl (.u8 (.u2 .nil)))))))) (.t rfl .nil) rfl)
 refine .exit ?_
 conv=>whnf
 exact hR1 _ (sj hs1).symm _ _ (li (.u4 (.u (.s (.u8 (.u4 (.u .n)))))))
end Abs
end Go.Proofs.YtkopaeklihhdlaaGreat

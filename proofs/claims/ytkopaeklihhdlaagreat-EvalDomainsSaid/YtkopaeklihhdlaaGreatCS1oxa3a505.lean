/-
  Contracts of Go functions (printed). Conditions: none.
-/
import Derived.KernelRfl
import Derived.Test.YtkopaeklihhdlaaGreatCHd4oxa85c22
set_option linter.all false
namespace Go.Proofs.YtkopaeklihhdlaaGreat
namespace Abs
open Go Go.Proofs
set_option maxRecDepth 100000
set_option maxHeartbeats 40000000
theorem s1x0{p q:Prop}(f:p→q)(h:p:=by exact li (.u2 (.u (.s (.s (.s (.u2 (.u (.s (.u16 (.u16 (.u16 (.u4 (.u2 (.s (.u16 (.u16 (.u2 .n)))))))))))))))))):q:=f h
theorem Rv(n:Nat)(p0:Env)(p1:S_api_Scope)(p2:Ty)(r:Bool)(h:zC n p0 p1 p2=some r):ak Tryz.prog 8 [.agg [.slice (List.map aj p0.carriers) .shared,.slice (List.map aB p0.names) .shared],.agg [.slice (List.map encI p1.sizes) .shared,.int .i64 p1.lo,.int .i64 p1.hi],.agg [.int .i64 p2.kind,.str p2.name,.slice (List.map aC p2.kids) .shared]] [] (.bool r) []:=by
 unfold zC at h;refine aA true Tryz.func8 rfl (by rw[Tryz.ntmps8];exact qAa rfl) fun Q hQ t ht=>?_
 conv at ht=>whnf
 subst ht;refine .q fun K1 k1=>?_;refine rg 3 ?_
 conv=>whnf
 refine k1 _ _ ?_;refine .q fun K2 k2=>?_;refine .q fun K3 k3=>?_;refine rg 0 ?_
 conv=>whnf
 obtain⟨x1,hx1,h⟩:=ob h;refine au (afj _ _ _ hx1) aq9 (.cons (.same _) .nil) (fun g=>by simp) (fun g=>rfl) ?_
 conv=>whnf
 refine k3 _ _ ?_;refine .aK rfl h (fun hc1 h=>?_) (fun hc1 h=>?_)
 ·refine .q fun K4 k4=>?_;refine rg 0 ?_
  conv=>whnf
  obtain⟨x2,hx2,h⟩:=ob h;refine au (xY _ _ hx2) Kl .nil (fun g=>rfl) (fun g=>rfl) ?_
  conv=>whnf
  refine k4 _ _ ?_;refine .ret ?_
  conv=>whnf
  have e9:=sj h;subst e9;refine hQ _ _ _ (aF aL (fun g=>rfl) ?_)
  conv=>whnf
 refine .skip ?_
 conv=>whnf
 refine k2 _ _ ?_;refine .q fun K5 k5=>?_;refine rg 0 ?_
 conv=>whnf
 obtain⟨x3,hx3,h⟩:=ob h;refine au (aa7 _ _ _ _ _ hx3) aqb (.cons (.same _) (.cons (.same _) (.cons (.same _) .nil))) (fun g=>by simp) (fun g=>rfl) ?_
 conv=>whnf
 obtain⟨x4,hx4,h⟩:=ob h;refine au (afo _ _ _ _ _ hx4) ao2 (.cons (.same _) (.cons (.same _) (.cons (.same _) .nil))) (fun g=>by simp) (fun g=>rfl) ?_
 conv=>whnf
 refine⟨by kernel_rfl,?_⟩
 conv=>whnf
 refine k5 _ _ ?_;refine .q fun K6 k6=>?_;refine .q fun K7 k7=>?_;refine rg 0 ?_
 conv=>whnf
 refine k7 _ _ ?_;refine .aK rfl h (fun hc2 h=>?_) (fun hc2 h=>?_)
 ·refine .q fun K8 k8=>?_;refine rg 0 ?_
  conv=>whnf
  refine k8 _ _ ?_;refine .ret ?_
  conv=>whnf
  have e9:=sj h;subst e9;refine hQ _ _ _ (aF aL (fun g=>rfl) ?_)
  conv=>whnf
 refine .skip ?_
 conv=>whnf
 refine k6 _ _ ?_;refine .q fun K9 k9=>?_;refine .q fun K10 k10=>?_;refine rg 0 ?_
 conv=>whnf
 refine k10 _ _ ?_;refine .aK rfl h (fun hc3 h=>?_) (fun hc3 h=>?_)
 ·refine .q fun K11 k11=>?_;refine rg 0 ?_
  conv=>whnf
  obtain⟨x5,hx5,h⟩:=ob h;refine au (xY _ _ hx5) Kl .nil (fun g=>rfl) (fun g=>rfl) ?_
  conv=>whnf
  refine k11 _ _ ?_;refine .ret ?_
  conv=>whnf
  have e9:=sj h;subst e9;refine hQ _ _ _ (aF aL (fun g=>rfl) ?_)
  conv=>whnf
 refine .skip ?_
 conv=>whnf
 refine k9 _ _ ?_;refine .q fun K12 k12=>?_;refine rg 0 ?_
 conv=>whnf
 obtain⟨x6,hx6,h⟩:=ob h;refine au (Xr _ _ _ _ _ hx6) apM (.cons (.same _) (.cons (.same _) (.cons (.same _) .nil))) (fun g=>by simp) (fun g=>by simp) ?_
 conv=>whnf
 refine k12 _ _ ?_;refine .q fun K13 k13=>?_;refine rg 0 ?_
 conv=>whnf
 obtain⟨x7,hx7,h⟩:=ob h;refine au (aew _ _ _ _ _ hx7) aqJ (.cons (.same _) (.cons (.same _) (.cons (.same _) .nil))) (fun g=>by simp) (fun g=>by simp) ?_
 conv=>whnf
 refine k13 _ _ ?_;refine .q fun K14 k14=>?_;refine .q fun K15 k15=>?_;obtain⟨s1,hj1,h⟩:=ob h;have hR1:∀t9 h9,Le 0 t9 h9 (u2 (.unk::(.ptr 0 0::(.ptr 1 0::(.ptr 2 0::(u2 (.unk::(.slice (List.map ah x6.1) .shared::(u32 (u16 (u4 (u2 (.bool s1::(u32 (u2 []))))))))))))))) [.box [.slice (List.map aj p0.carriers) .shared,.slice (List.map aB p0.names) .shared],.box [.slice (List.map encI p1.sizes) .shared,.int .i64 p1.lo,.int .i64 p1.hi],.box [.int .i64 p2.kind,.str p2.name,.slice (List.map aC p2.kids) .shared]]→K15 t9 h9:=by
  intro t9 h9 hw;refine k15 _ _ (AW.le hw ?_);clear hw;refine .aK rfl h (fun hc4 h=>?_) (fun hc4 h=>?_)
  ·refine .q fun K16 k16=>?_;refine rg 0 ?_
   conv=>whnf
   refine k16 _ _ ?_;refine .ret ?_
   conv=>whnf
   have e9:=sj h;subst e9;refine hQ _ _ _ (aF aL (fun g=>rfl) ?_)
   conv=>whnf
  refine .skip ?_
  conv=>whnf
  refine k14 _ _ ?_;refine .q fun K17 k17=>?_;refine .q fun K18 k18=>?_;refine rg 0 ?_
  conv=>whnf
  refine k18 _ _ ?_;refine .block ?_;obtain⟨o1,ho1,h⟩:=ob h;have hR2:∀s3:Unit,o1=.nx s3→∀t9 h9,Le 0 t9 h9 (u64 (u32 (u2 (.unk::[])))) []→K17 t9 h9:=by
   intro s3 ho;subst ho;dsimp only[LR.el]at h;intro t9 h9 hw;refine k17 _ _ (AW.le hw ?_);refine .q fun K19 k19=>?_;refine rg 0 ?_
   conv=>whnf
   obtain⟨x8,hx8,h⟩:=ob h;refine au (xY _ _ hx8) Kl .nil (fun g=>rfl) (fun g=>rfl) ?_
   conv=>whnf
   refine k19 _ _ ?_;refine .ret ?_
   conv=>whnf
   have e9:=sj h;subst e9;refine hQ _ _ _ (aF aL (fun g=>rfl) ?_)
   conv=>whnf
  refine .loopS (l6 n p0 p1 p2 x6) (fun(s2:Int)=>(u2 (.unk::(.ptr 0 0::(.ptr 1 0::(.ptr 2 0::(u2 (.unk::(.slice (List.map ah x6.1) .shared::(u2 (.unk::(.int .i64 s2::(u64 (u16 (u4 (.unk::[])))))))))))))))) (fun(s2:Int)=>[.box [.slice (List.map aj p0.carriers) .shared,.slice (List.map aB p0.names) .shared],.box [.slice (List.map encI p1.sizes) .shared,.int .i64 p1.lo,.int .i64 p1.hi],.box [.int .i64 p2.kind,.str p2.name,.slice (List.map aC p2.kids) .shared]]) ho1 (fun _=>rfl) (li (.u2 (.u (.s (.s (.s (.u2 (.u (.s (.u2 (.u (.s (.u16 (.u16 (.u16 (.u16 (.u16 (.u4 (.u .n))))))))))))))))))) ?_;intro n1 s2 hs1 KL1 hKL1;unfold l6 at hs1;refine .q fun K20 k20=>?_;refine .q fun K21 k21=>?_;refine rg 0 ?_
  conv=>whnf
  refine aY (l:=x6.1) (f:=ah) ?_
  conv=>whnf
  refine k21 _ _ ?_;refine .aK rfl hs1 (fun hc5 hs1=>?_) (fun hc5 hs1=>?_)
  ·refine .skip ?_
   conv=>whnf
   refine k20 _ _ ?_;refine .q fun K22 k22=>?_;refine .block ?_;refine .q fun K23 k23=>?_;obtain⟨s4,hj2,hs1⟩:=ob hs1;have hR3:∀t9 h9,Le 0 t9 h9 (u2 (.unk::(.ptr 0 0::(.ptr 1 0::(.ptr 2 0::(u2 (.unk::(.slice (List.map ah x6.1) .shared::(u2 (.unk::(.int .i64 s2::(u64 (u16 (u2 (.unk::(.bool s4::(.unk::[]))))))))))))))))) [.box [.slice (List.map aj p0.carriers) .shared,.slice (List.map aB p0.names) .shared],.box [.slice (List.map encI p1.sizes) .shared,.int .i64 p1.lo,.int .i64 p1.hi],.box [.int .i64 p2.kind,.str p2.name,.slice (List.map aC p2.kids) .shared]]→K23 t9 h9:=by
    intro t9 h9 hw;refine k23 _ _ (AW.le hw ?_);clear hw;refine .aK rfl hs1 (fun hc6 hs1=>?_) (fun hc6 hs1=>?_)
    ·refine .q fun K24 k24=>?_;refine rg 0 ?_
     conv=>whnf
     refine k24 _ _ ?_;refine .ret ?_
     conv=>whnf
     have e9:=sj hs1;subst e9;dsimp only[LR.el]at h;have e9:=sj h;subst e9;refine hQ _ _ _ (aF aL (fun g=>rfl) ?_)
     conv=>whnf
    refine .skip ?_
    conv=>whnf
    refine k22 _ _ ?_;refine .know 13 0 fun hv1=>?_;refine .know 9 0 fun hv2=>?_;refine rg 0 ?_
    conv=>whnf
    refine⟨(s2+1),by have:=fP hv1;have:=mO hv2;have h8:=of_decide_eq_true hc5;exact bT (by omega) (by omega),?_⟩
    conv=>whnf
    exact hKL1 _ _ _ hs1 (li (.u2 (.u (.s (.s (.s (.u2 (.u (.s (.u2 (.u (.s (.u16 (.u16 (.u16 (.u16 (.u16 (.u4 (.u .n)))))))))))))))))))
   refine .know 13 0 fun hv3=>?_;refine rg 0 ?_
   conv=>whnf
   obtain⟨x9,hx9,hj2⟩:=ob hj2;refine bf (l:=x6.1) (f:=ah) (cs:=[.int .i64 ((x9).kind),.int .i64 ((x9).n),.str ((x9).name),.slice (List.map ah ((x9).kids)) .shared]) hx9 (aS x9) rfl ?_
   conv=>whnf
   obtain⟨x10,hx10,hj2⟩:=ob hj2;refine au (afp _ _ _ _ _ _ hx10) apc (.cons (.same _) (.cons (.same _) (.cons (.same _) (.cons (.same _) .nil)))) (fun g=>by simp) (fun g=>rfl) ?_
   conv=>whnf
   refine aD hj2 (fun hc7 hj2=>?_) (fun hc7 hj2=>?_)
   ·conv=>whnf
    refine⟨by kernel_rfl,?_⟩
    conv=>whnf
    cases hj2;exact hR3 _ _ (li (.u2 (.u (.s (.s (.s (.u2 (.u (.s (.u2 (.u (.s (.u16 (.u16 (.u16 (.u16 (.u16 (.u2 (.u (.s (.u .n)))))))))))))))))))))
   conv=>whnf
   refine aD hj2 (fun hc8 hj2=>?_) (fun hc8 hj2=>?_)
   ·conv=>whnf
    refine⟨(s2 - 1),by have:=fP hv3;have h8:=of_decide_eq_true hc8;exact bT (by omega) (by omega),?_⟩
    conv=>whnf
    obtain⟨x11,hx11,hj2⟩:=ob hj2;refine bf (l:=x6.1) (f:=ah) (cs:=[.int .i64 ((x11).kind),.int .i64 ((x11).n),.str ((x11).name),.slice (List.map ah ((x11).kids)) .shared]) hx11 (aS x11) rfl ?_
    conv=>whnf
    obtain⟨x12,hx12,hj2⟩:=ob hj2;refine bf (l:=x6.1) (f:=ah) (cs:=[.int .i64 ((x12).kind),.int .i64 ((x12).n),.str ((x12).name),.slice (List.map ah ((x12).kids)) .shared]) hx12 (aS x12) rfl ?_
    conv=>whnf
    obtain⟨x13,hx13,hj2⟩:=ob hj2;refine au (mE _ _ _ _ hx13) EN (.cons (.same _) (.cons (.same _) .nil)) (fun g=>by simp) (fun g=>rfl) ?_
    conv=>whnf
    refine⟨by kernel_rfl,?_⟩
    conv=>whnf
    cases hj2;exact hR3 _ _ (li (.u2 (.u (.s (.s (.s (.u2 (.u (.s (.u2 (.u (.s (.u16 (.u16 (.u16 (.u16 (.u16 (.u2 (.u (.s (.u .n)))))))))))))))))))))
   conv=>whnf
   refine⟨by kernel_rfl,?_⟩
   conv=>whnf
   cases hj2;exact hR3 _ _ (li (.u2 (.u (.s (.s (.s (.u2 (.u (.s (.u2 (.u (.s (.u16 (.u16 (.u16 (.u16 (.u16 (.u2 (.u (.s (.u .n)))))))))))))))))))))
  refine .exit ?_
  conv=>whnf
  exact hR2 _ (sj hs1).symm _ _ (wk [] (.u64 (.u32 (.u2 (.u .nil)))) .nil rfl)
 refine rg 0 ?_
 conv=>whnf
 refine aD hj1 (fun hc9 hj1=>?_) (fun hc9 hj1=>?_)
 ·conv=>whnf
  cases hj1;exact s1x0 (hR1 _ _)
 conv=>whnf
 obtain⟨x14,hx14,hj1⟩:=ob hj1;refine au (Tx _ _ _ _ hx14) aiZ (.cons (.same _) (.cons (.same _) .nil)) (fun g=>by simp) (fun g=>rfl) ?_
 conv=>whnf
 refine aD hj1 (fun hc10 hj1=>?_) (fun hc10 hj1=>?_)
 ·conv=>whnf
  cases hj1;exact s1x0 (hR1 _ _)
 conv=>whnf
 refine aD hj1 (fun hc11 hj1=>?_) (fun hc11 hj1=>?_)
 ·conv=>whnf
  refine aY (l:=x6.1) (f:=ah) ?_
  conv=>whnf
  cases hj1;exact s1x0 (hR1 _ _)
 conv=>whnf
 cases hj1;exact s1x0 (hR1 _ _)
end Abs
end Go.Proofs.YtkopaeklihhdlaaGreat

/-
  Contracts of Go functions (printed). Conditions: none.
-/
import Derived.KernelRfl
import Derived.Test.YtkopaeklihhdlaaGreatCE8ox84be6b
set_option linter.all false
namespace Go.Proofs.YtkopaeklihhdlaaGreat
namespace Abs
open Go Go.Proofs
set_option maxRecDepth 100000
set_option maxHeartbeats 40000000
theorem e10x0{p q:Prop}(f:p→q)(h:p:=by exact li (.u (.s (.s (.s (.u16 (.u16 (.u16 (.u8 (.u (.s (.u16 (.u2 (.u .n)))))))))))))):q:=f h
abbrev qay(qdd:Ty→Int→Int→Option Int):Prop:=∀(p0:Ty) (p1:Int) (p2:Int) (r:Int),qdd p0 p1 p2=some r→ak Tryz.prog 103 [.agg [.int .i64 p0.kind,.str p0.name,.slice (List.map aC p0.kids) .shared],.int .i64 p1,.int .i64 p2] [] (.int .i64 r) []
theorem Te(n:Nat)(qdd:Ty→Int→Int→Option Int)(qbo:qay qdd)(p0:Ty)(p1:Int)(p2:Int)(r:Int)(h:xK n qdd p0 p1 p2=some r):ak Tryz.prog 103 [.agg [.int .i64 p0.kind,.str p0.name,.slice (List.map aC p0.kids) .shared],.int .i64 p1,.int .i64 p2] [] (.int .i64 r) []:=by
 unfold xK at h;refine aA true Tryz.func103 rfl (by rw[Tryz.ntmps103];exact qAa rfl) fun Q hQ t ht=>?_
 conv at ht=>whnf
 subst ht;refine .q fun K1 k1=>?_;refine rg 1 ?_
 conv=>whnf
 refine k1 _ _ ?_;refine .q fun K2 k2=>?_;refine rg 0 ?_
 conv=>whnf
 refine⟨(IntKind.wrap .i64 (p2+1)),rfl,?_⟩
 conv=>whnf
 refine k2 _ _ ?_;refine .q fun K3 k3=>?_;refine .q fun K4 k4=>?_;obtain⟨s1,hj1,h⟩:=ob h;have hR1:∀t9 h9,Le 0 t9 h9 (.unk::(.int .i64 p1::(.int .i64 (IntKind.wrap .i64 (p2+1))::(.ptr 0 0::(u16 (u4 (.unk::(.bool s1::(u32 (u16 (u4 (u2 (.unk::[]))))))))))))) [.box [.int .i64 p0.kind,.str p0.name,.slice (List.map aC p0.kids) .shared]]→K4 t9 h9:=by
  intro t9 h9 hw;refine k4 _ _ (AW.le hw ?_);clear hw;refine .aK rfl h (fun hc1 h=>?_) (fun hc1 h=>?_)
  ·refine .q fun K5 k5=>?_;refine rg 0 ?_
   conv=>whnf
   refine k5 _ _ ?_;refine .ret ?_
   conv=>whnf
   have e9:=sj h;subst e9;refine hQ _ _ _ (aF aL (fun g=>rfl) ?_)
   conv=>whnf
  refine .skip ?_
  conv=>whnf
  refine k3 _ _ ?_;refine .q fun K6 k6=>?_;refine rg 0 ?_
  conv=>whnf
  refine k6 _ _ ?_;refine .q fun K7 k7=>?_;obtain⟨o2,hj2,h⟩:=ob h;have hR2:∀s2:Int,o2=.nx s2→∀t9 h9,Le 0 t9 h9 (.unk::(.int .i64 p1::(.int .i64 (IntKind.wrap .i64 (p2+1))::(.ptr 0 0::(u2 (.unk::(.int .i64 s2::(u64 (u8 (.unk::[])))))))))) [.box [.int .i64 p0.kind,.str p0.name,.slice (List.map aC p0.kids) .shared]]→K7 t9 h9:=by
   intro s2 ho;subst ho;dsimp only[LR.el]at h;intro t9 h9 hw;refine k7 _ _ (AW.le hw ?_);clear hw;refine .q fun K8 k8=>?_;refine .q fun K9 k9=>?_;obtain⟨s3,hj3,h⟩:=ob h;have hR3:∀t9 h9,Le 0 t9 h9 (.unk::(.int .i64 p1::(.int .i64 (IntKind.wrap .i64 (p2+1))::(.ptr 0 0::(u32 (u16 (u8 (.unk::(.bool s3::(u16 (u2 (.unk::[])))))))))))) [.box [.int .i64 p0.kind,.str p0.name,.slice (List.map aC p0.kids) .shared]]→K9 t9 h9:=by
    intro t9 h9 hw;refine k9 _ _ (AW.le hw ?_);clear hw;refine .aK rfl h (fun hc2 h=>?_) (fun hc2 h=>?_)
    ·refine .q fun K10 k10=>?_;refine rg 0 ?_
     conv=>whnf
     refine k10 _ _ ?_;refine .ret ?_
     conv=>whnf
     have e9:=sj h;subst e9;refine hQ _ _ _ (aF aL (fun g=>rfl) ?_)
     conv=>whnf
    refine .skip ?_
    conv=>whnf
    refine k8 _ _ ?_;refine .q fun K11 k11=>?_;refine .q fun K12 k12=>?_;refine rg 0 ?_
    conv=>whnf
    refine k12 _ _ ?_;refine .block ?_;obtain⟨o1,ho1,h⟩:=ob h;have hR4:∀s5:Int,o1=.nx s5→∀t9 h9,Le 0 t9 h9 (u2 (.int .i64 s5::(u64 (u8 (u4 (u2 [])))))) []→K11 t9 h9:=by
     intro s5 ho;subst ho;dsimp only[LR.el]at h;intro t9 h9 hw;refine k11 _ _ (AW.le hw ?_);refine .q fun K13 k13=>?_;refine rg 0 ?_
     conv=>whnf
     refine k13 _ _ ?_;refine .ret ?_
     conv=>whnf
     have e9:=sj h;subst e9;refine hQ _ _ _ (aF aL (fun g=>rfl) ?_)
     conv=>whnf
    refine .loopS (uS n qdd p0 p1) (fun(s4:Int×Int)=>(.unk::(.int .i64 p1::(.int .i64 s4.1::(.ptr 0 0::(u4 (.int .i64 s4.2::(u64 (u8 []))))))))) (fun(s4:Int×Int)=>[.box [.int .i64 p0.kind,.str p0.name,.slice (List.map aC p0.kids) .shared]]) ho1 (fun _=>rfl) (li (.u (.s (.s (.s (.u4 (.s (.u16 (.u16 (.u16 (.u16 (.u8 .n)))))))))))) ?_;intro n1 s4 hs1 KL1 hKL1;unfold uS at hs1;refine .q fun K14 k14=>?_;refine .q fun K15 k15=>?_;refine rg 0 ?_
    conv=>whnf
    refine aY (l:=p0.kids) (f:=aC) ?_
    conv=>whnf
    refine k15 _ _ ?_;refine .aK rfl hs1 (fun hc3 hs1=>?_) (fun hc3 hs1=>?_)
    ·refine .skip ?_
     conv=>whnf
     refine k14 _ _ ?_;refine .q fun K16 k16=>?_;refine .block ?_;refine .q fun K17 k17=>?_;refine rg 0 ?_
     conv=>whnf
     obtain⟨x1,hx1,hs1⟩:=ob hs1;refine bf (l:=p0.kids) (f:=aC) (cs:=[.int .i64 ((x1).kind),.str ((x1).name),.slice (List.map aC ((x1).kids)) .shared]) hx1 (bZ x1) rfl ?_
     conv=>whnf
     refine⟨(IntKind.wrap .i64 (p1+1)),rfl,?_⟩
     conv=>whnf
     obtain⟨x2,hx2,hs1⟩:=ob hs1;refine au (qbo _ _ _ _ hx2) afT (.cons (.same _) (.cons (.same _) (.cons (.same _) .nil))) (fun g=>by simp) (fun g=>rfl) ?_
     conv=>whnf
     refine k17 _ _ ?_;refine .q fun K18 k18=>?_;refine rg 0 ?_
     conv=>whnf
     refine k18 _ _ ?_;refine .aK rfl hs1 (fun hc4 hs1=>?_) (fun hc4 hs1=>?_)
     ·refine .q fun K19 k19=>?_;refine rg 0 ?_
      conv=>whnf
      refine k19 _ _ ?_;refine .ret ?_
      conv=>whnf
      have e9:=sj hs1;subst e9;dsimp only[LR.el]at h;have e9:=sj h;subst e9;refine hQ _ _ _ (aF aL (fun g=>rfl) ?_)
      conv=>whnf
     refine .skip ?_
     conv=>whnf
     refine k16 _ _ ?_;refine .know 8 0 fun hv1=>?_;refine .know 64 0 fun hv2=>?_;refine rg 0 ?_
     conv=>whnf
     refine⟨(s4.2+1),by have:=fP hv1;have:=mO hv2;have h8:=of_decide_eq_true hc3;exact bT (by omega) (by omega),?_⟩
     conv=>whnf
     exact hKL1 _ _ _ hs1 (li (.u (.s (.s (.s (.u4 (.s (.u16 (.u16 (.u16 (.u16 (.u8 .n))))))))))))
    refine .exit ?_
    conv=>whnf
    exact hR4 _ (sj hs1).symm _ _ (wk [] (.u2 (.c rfl (.u64 (.u8 (.u4 (.u2 .nil)))))) .nil rfl)
   refine rg 0 ?_
   conv=>whnf
   refine aY (l:=p0.kids) (f:=aC) ?_
   conv=>whnf
   refine aD hj3 (fun hc5 hj3=>?_) (fun hc5 hj3=>?_)
   ·conv=>whnf
    cases hj3;exact e10x0 (hR3 _ _)
   conv=>whnf
   refine aD hj3 (fun hc6 hj3=>?_) (fun hc6 hj3=>?_)
   ·conv=>whnf
    obtain⟨x3,hx3,hj3⟩:=ob hj3;refine au (sK _ _ _ hx3) Pz (.cons (.same _) .nil) (fun g=>rfl) (fun g=>rfl) ?_
    conv=>whnf
    refine aD hj3 (fun hc7 hj3=>?_) (fun hc7 hj3=>?_)
    ·conv=>whnf
     cases hj3;exact e10x0 (hR3 _ _)
    conv=>whnf
    refine aD hj3 (fun hc8 hj3=>?_) (fun hc8 hj3=>?_)
    ·conv=>whnf
     cases hj3;exact e10x0 (hR3 _ _)
    conv=>whnf
    cases hj3;exact e10x0 (hR3 _ _)
   conv=>whnf
   refine aD hj3 (fun hc9 hj3=>?_) (fun hc9 hj3=>?_)
   ·conv=>whnf
    cases hj3;exact e10x0 (hR3 _ _)
   conv=>whnf
   cases hj3;exact e10x0 (hR3 _ _)
  refine .q fun K20 k20=>?_;refine rg 0 ?_
  conv=>whnf
  refine k20 _ _ ?_;refine .block ?_;refine .q fun K21 k21=>?_;obtain⟨s6,hj4,hj2⟩:=ob hj2;have hR5:∀t9 h9,Le 0 t9 h9 (.unk::(.int .i64 p1::(.int .i64 (IntKind.wrap .i64 (p2+1))::(.ptr 0 0::(u2 (.unk::(.int .i64 0::(u16 (u2 (.unk::(.int .i64 p0.kind::(.bool s6::(u32 (u16 (u4 []))))))))))))))) [.box [.int .i64 p0.kind,.str p0.name,.slice (List.map aC p0.kids) .shared]]→K21 t9 h9:=by
   intro t9 h9 hw;refine k21 _ _ (AW.le hw ?_);clear hw;refine .aK rfl hj2 (fun hc10 hj2=>?_) (fun hc10 hj2=>?_)
   ·refine .skip ?_
    conv=>whnf
    exact hR2 _ (sj hj2).symm _ _ (li (.u (.s (.s (.s (.u2 (.u (.s (.u16 (.u16 (.u16 (.u16 (.u8 (.u .n))))))))))))))
   refine .q fun K22 k22=>?_;refine rg 0 ?_
   conv=>whnf
   refine k22 _ _ ?_;refine .aK rfl hj2 (fun hc11 hj2=>?_) (fun hc11 hj2=>?_)
   ·refine rg 0 ?_
    conv=>whnf
    exact hR2 _ (sj hj2).symm _ _ (li (.u (.s (.s (.s (.u2 (.u (.s (.u16 (.u16 (.u16 (.u16 (.u8 (.u .n))))))))))))))
   refine .q fun K23 k23=>?_;refine rg 0 ?_
   conv=>whnf
   refine k23 _ _ ?_;refine .aK rfl hj2 (fun hc12 hj2=>?_) (fun hc12 hj2=>?_)
   ·refine rg 0 ?_
    conv=>whnf
    exact hR2 _ (sj hj2).symm _ _ (li (.u (.s (.s (.s (.u2 (.u (.s (.u16 (.u16 (.u16 (.u16 (.u8 (.u .n))))))))))))))
   refine .q fun K24 k24=>?_;refine rg 0 ?_
   conv=>whnf
   refine k24 _ _ ?_;refine .ret ?_
   conv=>whnf
   have e9:=sj hj2;subst e9;dsimp only[LR.el]at h;have e9:=sj h;subst e9;refine hQ _ _ _ (aF aL (fun g=>rfl) ?_)
   conv=>whnf
  refine .q fun K25 k25=>?_;refine rg 0 ?_
  conv=>whnf
  refine k25 _ _ ?_;refine .aK rfl hj4 (fun hc13 hj4=>?_) (fun hc13 hj4=>?_)
  ·refine .skip ?_
   conv=>whnf
   cases hj4;exact hR5 _ _ (li (.u (.s (.s (.s (.u2 (.u (.s (.u16 (.u2 (.u (.s (.s (.u16 (.u16 (.u16 (.u4 .n)))))))))))))))))
  refine .q fun K26 k26=>?_;refine rg 0 ?_
  conv=>whnf
  refine k26 _ _ ?_;refine .aK rfl hj4 (fun hc14 hj4=>?_) (fun hc14 hj4=>?_)
  ·refine .skip ?_
   conv=>whnf
   cases hj4;exact hR5 _ _ (li (.u (.s (.s (.s (.u2 (.u (.s (.u16 (.u2 (.u (.s (.s (.u16 (.u16 (.u16 (.u4 .n)))))))))))))))))
  refine rg 0 ?_
  conv=>whnf
  cases hj4;exact hR5 _ _ (li (.u (.s (.s (.s (.u2 (.u (.s (.u16 (.u2 (.u (.s (.s (.u16 (.u16 (.u16 (.u4 .n)))))))))))))))))
 refine rg 0 ?_
 conv=>whnf
 refine aD hj1 (fun hc15 hj1=>?_) (fun hc15 hj1=>?_)
 ·conv=>whnf
  cases hj1;exact hR1 _ _ (li (.u (.s (.s (.s (.u16 (.u4 (.u (.s (.u16 (.u16 (.u16 (.u4 (.u2 (.u .n)))))))))))))))
 conv=>whnf
 refine aD hj1 (fun hc16 hj1=>?_) (fun hc16 hj1=>?_)
 ·conv=>whnf
  cases hj1;exact hR1 _ _ (li (.u (.s (.s (.s (.u16 (.u4 (.u (.s (.u16 (.u16 (.u16 (.u4 (.u2 (.u .n)))))))))))))))
 conv=>whnf
 refine aD hj1 (fun hc17 hj1=>?_) (fun hc17 hj1=>?_)
 ·conv=>whnf
  cases hj1;exact hR1 _ _ (li (.u (.s (.s (.s (.u16 (.u4 (.u (.s (.u16 (.u16 (.u16 (.u4 (.u2 (.u .n)))))))))))))))
 conv=>whnf
 cases hj1;exact hR1 _ _ (li (.u (.s (.s (.s (.u16 (.u4 (.u (.s (.u16 (.u16 (.u16 (.u4 (.u2 (.u .n)))))))))))))))
theorem adR(n:Nat):qay (qD n):=by
 induction n with
 |zero=>exact(fun p0 p1 p2 r h=>by unfold qD at h;cases h)
 |succ n ih=>
  exact(fun p0 p1 p2 r h=>Te n _ ih p0 p1 p2 r (by unfold qD at h;exact h))
theorem ae4(n:Nat):qay (qD n):=(adR n)
theorem yD(n:Nat)(p0:Ty)(r:Bool)(h:eY n p0=some r):ak Tryz.prog 47 [.agg [.int .i64 p0.kind,.str p0.name,.slice (List.map aC p0.kids) .shared]] [] (.bool r) []:=by
 unfold eY at h;refine aA true Tryz.func47 rfl (by rw[Tryz.ntmps47];exact qAa rfl) fun Q hQ t ht=>?_
 conv at ht=>whnf
 subst ht;refine .q fun K1 k1=>?_;refine rg 1 ?_
 conv=>whnf
 refine k1 _ _ ?_;refine .q fun K2 k2=>?_;refine rg 0 ?_
 conv=>whnf
 obtain⟨x1,hx1,h⟩:=ob h;refine au (ae4 _ _ _ _ _ hx1) afT (.cons (.same _) (.cons (.same _) (.cons (.same _) .nil))) (fun g=>by simp) (fun g=>rfl) ?_
 conv=>whnf
 refine k2 _ _ ?_;refine .ret ?_
 conv=>whnf
 have e9:=sj h;subst e9;refine hQ _ _ _ (aF aL (fun g=>rfl) ?_)
 conv=>whnf
abbrev qa3(qdi:Ty→Option Bool):Prop:=∀(p0:Ty) (r:Bool),qdi p0=some r→ak Tryz.prog 100 [.agg [.int .i64 p0.kind,.str p0.name,.slice (List.map aC p0.kids) .shared]] [] (.bool r) []
theorem Mh(n:Nat)(qdi:Ty→Option Bool)(qbq:qa3 qdi)(p0:Ty)(r:Bool)(h:qP n qdi p0=some r):ak Tryz.prog 100 [.agg [.int .i64 p0.kind,.str p0.name,.slice (List.map aC p0.kids) .shared]] [] (.bool r) []:=by
 unfold qP at h;refine aA true Tryz.func100 rfl (by rw[Tryz.ntmps100];exact qAa rfl) fun Q hQ t ht=>?_
 conv at ht=>whnf
 subst ht;refine .q fun K1 k1=>?_;refine rg 1 ?_
 conv=>whnf
 refine k1 _ _ ?_;refine .q fun K2 k2=>?_;refine .q fun K3 k3=>?_;refine rg 0 ?_
 conv=>whnf
 refine k3 _ _ ?_;refine .aK rfl h (fun hc1 h=>?_) (fun hc1 h=>?_)
 ·refine .q fun K4 k4=>?_;refine rg 0 ?_
  conv=>whnf
  refine k4 _ _ ?_;refine .ret ?_
  conv=>whnf
  have e9:=sj h;subst e9;refine hQ _ _ _ (aF aL (fun g=>rfl) ?_)
  conv=>whnf
 refine .skip ?_
 conv=>whnf
 refine k2 _ _ ?_;refine .q fun K5 k5=>?_;refine .q fun K6 k6=>?_;refine rg 0 ?_
 conv=>whnf
 refine k6 _ _ ?_;refine .block ?_;obtain⟨o1,ho1,h⟩:=ob h;have hR1:∀s2:Unit,o1=.nx s2→∀t9 h9,Le 0 t9 h9 (u16 (u4 [])) []→K5 t9 h9:=by
  intro s2 ho;subst ho;dsimp only[LR.el]at h;intro t9 h9 hw;refine k5 _ _ (AW.le hw ?_);refine .q fun K7 k7=>?_;refine rg 0 ?_
  conv=>whnf
  refine k7 _ _ ?_;refine .ret ?_
  conv=>whnf
  have e9:=sj h;subst e9;refine hQ _ _ _ (aF aL (fun g=>rfl) ?_)
  conv=>whnf
 refine .loopS (uj n qdi p0) (fun(s1:Int)=>(.unk::(.ptr 0 0::(.unk::(.int .i64 s1::(u16 [])))))) (fun(s1:Int)=>[.box [.int .i64 p0.kind,.str p0.name,.slice (List.map aC p0.kids) .shared]]) ho1 (fun _=>rfl) (li (.u (.s (.u (.s (.u16 .n)))))) ?_;intro n1 s1 hs1 KL1 hKL1;unfold uj at hs1;refine .q fun K8 k8=>?_;refine .q fun K9 k9=>?_;refine rg 0 ?_
 conv=>whnf
 refine aY (l:=p0.kids) (f:=aC) ?_
 conv=>whnf
 refine k9 _ _ ?_;refine .aK rfl hs1 (fun hc2 hs1=>?_) (fun hc2 hs1=>?_)
 ·refine .skip ?_
  conv=>whnf
  refine k8 _ _ ?_;refine .q fun K10 k10=>?_;refine .block ?_;refine .q fun K11 k11=>?_;refine rg 0 ?_
  conv=>whnf
  obtain⟨x1,hx1,hs1⟩:=ob hs1;refine bf (l:=p0.kids) (f:=aC) (cs:=[.int .i64 ((x1).kind),.str ((x1).name),.slice (List.map aC ((x1).kids)) .shared]) hx1 (bZ x1) rfl ?_
  conv=>whnf
  obtain⟨x2,hx2,hs1⟩:=ob hs1;refine au (qbq _ _ hx2) agI (.cons (.same _) .nil) (fun g=>by simp) (fun g=>rfl) ?_
  conv=>whnf
  refine k11 _ _ ?_;refine .aK rfl hs1 (fun hc3 hs1=>?_) (fun hc3 hs1=>?_)
  ·refine .q fun K12 k12=>?_;refine rg 0 ?_
   conv=>whnf
   refine k12 _ _ ?_;refine .ret ?_
   conv=>whnf
   have e9:=sj hs1;subst e9;dsimp only[LR.el]at h;have e9:=sj h;subst e9;refine hQ _ _ _ (aF aL (fun g=>rfl) ?_)
   conv=>whnf
  refine .skip ?_
  conv=>whnf
  refine k10 _ _ ?_;refine .know 3 0 fun hv1=>?_;refine .know 9 0 fun hv2=>?_;refine rg 0 ?_
  conv=>whnf
  refine⟨(s1+1),by have:=fP hv1;have:=mO hv2;have h8:=of_decide_eq_true hc2;exact bT (by omega) (by omega),?_⟩
  conv=>whnf
  exact hKL1 _ _ _ hs1 (li (.u (.s (.u (.s (.u16 .n))))))
 refine .exit ?_
 conv=>whnf
 exact hR1 _ (sj hs1).symm _ _ (wk [] (.u16 (.u4 .nil)) .nil rfl)
theorem TK(n:Nat):qa3 (jT n):=by
 induction n with
 |zero=>exact(fun p0 r h=>by unfold jT at h;cases h)
 |succ n ih=>
  exact(fun p0 r h=>Mh n _ ih p0 r (by unfold jT at h;exact h))
theorem Vg(n:Nat):qa3 (jT n):=(TK n)
abbrev qa1(qdg:Ty→Option (List Str)):Prop:=∀(p0:Ty) (r:List Str),qdg p0=some r→ak Tryz.prog 104 [.agg [.int .i64 p0.kind,.str p0.name,.slice (List.map aC p0.kids) .shared]] [] (.slice (List.map encS r) .shared) []
theorem N7(n:Nat)(qdg:Ty→Option (List Str))(qbp:qa1 qdg)(p0:Ty)(r:List Str)(h:sI n qdg p0=some r):ak Tryz.prog 104 [.agg [.int .i64 p0.kind,.str p0.name,.slice (List.map aC p0.kids) .shared]] [] (.slice (List.map encS r) .shared) []:=by
 unfold sI at h;refine aA true Tryz.func104 rfl (by rw[Tryz.ntmps104];exact qAa rfl) fun Q hQ t ht=>?_
 conv at ht=>whnf
 subst ht;refine .q fun K1 k1=>?_;refine rg 1 ?_
 conv=>whnf
 refine k1 _ _ ?_;refine .q fun K2 k2=>?_;refine .q fun K3 k3=>?_;refine rg 0 ?_
 conv=>whnf
 refine k3 _ _ ?_;refine .aK rfl h (fun hc1 h=>?_) (fun hc1 h=>?_)
 ·refine .q fun K4 k4=>?_;refine rg 1 ?_
  conv=>whnf
  refine⟨List.map encS ([p0.name]),rfl,?_⟩
  conv=>whnf
  refine k4 _ _ ?_;refine .ret ?_
  conv=>whnf
  have e9:=sj h;subst e9;refine hQ _ _ _ (aF aL (fun g=>by simp) ?_)
  conv=>whnf
  try rfl
 refine .skip ?_
 conv=>whnf
 refine k2 _ _ ?_;refine .q fun K5 k5=>?_;refine rg 0 ?_
 conv=>whnf
 refine k5 _ _ ?_;refine .q fun K6 k6=>?_;refine .q fun K7 k7=>?_;refine rg 0 ?_
 conv=>whnf
 refine k7 _ _ ?_;refine .block ?_;obtain⟨o1,ho1,h⟩:=ob h;have hR1:∀s2:List Str,o1=.nx s2→∀t9 h9,Le 0 t9 h9 (u2 (.unk::(.slice (List.map encS s2) (.tip 0 1)::(u16 (u4 (u2 (.unk::[]))))))) [.tip (List.length s2*1)]→K6 t9 h9:=by
  intro s2 ho;subst ho;dsimp only[LR.el]at h;intro t9 h9 hw;refine k6 _ _ (AW.le hw ?_);refine .q fun K8 k8=>?_;refine rg 0 ?_
  conv=>whnf
  refine k8 _ _ ?_;refine .ret ?_
  conv=>whnf
  have e9:=sj h;subst e9;refine hQ _ _ _ (aF aL (fun g=>by simp) ?_)
  conv=>whnf
  try rfl
 refine .loopS (wD n qdg p0) (fun(s1:(List Str)×Int)=>(.unk::(.ptr 0 0::(.unk::(.slice (List.map encS s1.1) (.tip 1 1)::(.int .i64 s1.2::(u16 (u4 (u2 []))))))))) (fun(s1:(List Str)×Int)=>[.box [.int .i64 p0.kind,.str p0.name,.slice (List.map aC p0.kids) .shared],.tip (List.length s1.1*1)]) ho1 (fun _=>rfl) (wk [some 0,none] (.u (.c rfl (.u (.cons (.nils _ _) (.c rfl (.u16 (.u4 (.u2 .nil)))))))) (.b rfl (.c rfl (.c rfl (.e bK .nil))) (.w rfl .nil)) rfl) ?_;intro n1 s1 hs1 KL1 hKL1;unfold wD at hs1;refine .q fun K9 k9=>?_;refine .q fun K10 k10=>?_;refine rg 0 ?_
 conv=>whnf
 refine aY (l:=p0.kids) (f:=aC) ?_
 conv=>whnf
 refine k10 _ _ ?_;refine .aK rfl hs1 (fun hc2 hs1=>?_) (fun hc2 hs1=>?_)
 ·refine .skip ?_
  conv=>whnf
  refine k9 _ _ ?_;refine .q fun K11 k11=>?_;refine .block ?_;refine rg 1 ?_
  conv=>whnf
  obtain⟨x1,hx1,hs1⟩:=ob hs1;refine bf (l:=p0.kids) (f:=aC) (cs:=[.int .i64 ((x1).kind),.str ((x1).name),.slice (List.map aC ((x1).kids)) .shared]) hx1 (bZ x1) rfl ?_
  conv=>whnf
  obtain⟨x2,hx2,hs1⟩:=ob hs1;refine au (qbp _ _ hx2) agB (.cons (.same _) .nil) (fun g=>by simp) (fun g=>by simp) ?_
  conv=>whnf
  obtain⟨x3,hx3,hs1⟩:=ob hs1;refine jA (l:=s1.1) (ys:=x2) (f:=encS) hx3 Ls rfl rfl rfl ?_
  conv=>whnf
  refine k11 _ _ ?_;refine .know 4 0 fun hv1=>?_;refine .know 13 0 fun hv2=>?_;refine rg 0 ?_
  conv=>whnf
  refine⟨(s1.2+1),by have:=fP hv1;have:=mO hv2;have h8:=of_decide_eq_true hc2;exact bT (by omega) (by omega),?_⟩
  conv=>whnf
  exact hKL1 _ _ _ hs1 (wk [some 0,some 2] (.u (.c rfl (.u (.cons (.tK (bS _ _) rfl) (.c rfl (.u16 (.u4 (.u2 .nil)))))))) (.b rfl (.c rfl (.c rfl (.e bK .nil))) (.t rfl .nil)) rfl)
 refine .exit ?_
 conv=>whnf
 exact hR1 _ (sj hs1).symm _ _ (wk [some 1] (.u2 (.u (.cons (.tK (bS _ _) rfl) (.u16 (.u4 (.u2 (.u .nil))))))) (.t rfl .nil) rfl)
theorem VK(n:Nat):qa1 (nO n):=by
 induction n with
 |zero=>exact(fun p0 r h=>by unfold nO at h;cases h)
 |succ n ih=>
  exact(fun p0 r h=>N7 n _ ih p0 r (by unfold nO at h;exact h))
theorem Yw(n:Nat):qa1 (nO n):=(VK n)
theorem vo(n:Nat)(p0:Env)(p1:Str)(r:Int)(h:fT n p0 p1=some r):ak Tryz.prog 68 [.agg [.slice (List.map aj p0.carriers) .shared,.slice (List.map aB p0.names) .shared],.str p1] [] (.int .i64 r) []:=by
 unfold fT at h;refine aA true Tryz.func68 rfl (by rw[Tryz.ntmps68];exact qAa rfl) fun Q hQ t ht=>?_
 conv at ht=>whnf
 subst ht;refine .q fun K1 k1=>?_;refine rg 1 ?_
 conv=>whnf
 refine k1 _ _ ?_;refine .q fun K2 k2=>?_;refine .q fun K3 k3=>?_;refine rg 0 ?_
 conv=>whnf
 refine k3 _ _ ?_;refine .block ?_;obtain⟨o1,ho1,h⟩:=ob h;have hR1:∀s2:Unit,o1=.nx s2→∀t9 h9,Le 0 t9 h9 (u16 (u4 (u2 []))) []→K2 t9 h9:=by
  intro s2 ho;subst ho;dsimp only[LR.el]at h;intro t9 h9 hw;refine k2 _ _ (AW.le hw ?_);refine .q fun K4 k4=>?_;refine rg 0 ?_
  conv=>whnf
  refine k4 _ _ ?_;refine .ret ?_
  conv=>whnf
  have e9:=sj h;subst e9;refine hQ _ _ _ (aF aL (fun g=>rfl) ?_)
  conv=>whnf
 refine .loopS (qU n p0 p1) (fun(s1:Int)=>(.unk::(.str p1::(.ptr 0 0::(u2 (.int .i64 s1::(u16 []))))))) (fun(s1:Int)=>[.box [.slice (List.map aj p0.carriers) .shared,.slice (List.map aB p0.names) .shared]]) ho1 (fun _=>rfl) (li (.u (.s (.s (.u2 (.s (.u16 .n))))))) ?_;intro n1 s1 hs1 KL1 hKL1;unfold qU at hs1;refine .q fun K5 k5=>?_;refine .q fun K6 k6=>?_;refine rg 0 ?_
 conv=>whnf
 refine aY (l:=p0.carriers) (f:=aj) ?_
 conv=>whnf
 refine k6 _ _ ?_;refine .aK rfl hs1 (fun hc1 hs1=>?_) (fun hc1 hs1=>?_)
 ·refine .skip ?_
  conv=>whnf
  refine k5 _ _ ?_;refine .q fun K7 k7=>?_;refine .block ?_;refine .q fun K8 k8=>?_;refine rg 0 ?_
  conv=>whnf
  obtain⟨x1,hx1,hs1⟩:=ob hs1;refine bf (l:=p0.carriers) (f:=aj) (cs:=[.str ((x1).name),.slice (List.map encS ((x1).elems)) .shared]) hx1 (rfl) rfl ?_
  conv=>whnf
  refine k8 _ _ ?_;refine .aK rfl hs1 (fun hc2 hs1=>?_) (fun hc2 hs1=>?_)
  ·refine .q fun K9 k9=>?_;refine rg 0 ?_
   conv=>whnf
   refine k9 _ _ ?_;refine .ret ?_
   conv=>whnf
   have e9:=sj hs1;subst e9;dsimp only[LR.el]at h;have e9:=sj h;subst e9;refine hQ _ _ _ (aF aL (fun g=>rfl) ?_)
   conv=>whnf
  refine .skip ?_
  conv=>whnf
  refine k7 _ _ ?_;refine .know 5 0 fun hv1=>?_;refine .know 8 0 fun hv2=>?_;refine rg 0 ?_
  conv=>whnf
  refine⟨(s1+1),by have:=fP hv1;have:=mO hv2;have h8:=of_decide_eq_true hc1;exact bT (by omega) (by omega),?_⟩
  conv=>whnf
  exact hKL1 _ _ _ hs1 (li (.u (.s (.s (.u2 (.s (.u16 .n)))))))
 refine .exit ?_
 conv=>whnf
 exact hR1 _ (sj hs1).symm _ _ (wk [] (.u16 (.u4 (.u2 .nil))) .nil rfl)
theorem EC(n:Nat)(p0:Env)(p1:Ty)(r:Bool)(h:pI n p0 p1=some r):ak Tryz.prog 48 [.agg [.slice (List.map aj p0.carriers) .shared,.slice (List.map aB p0.names) .shared],.agg [.int .i64 p1.kind,.str p1.name,.slice (List.map aC p1.kids) .shared]] [] (.bool r) []:=by
 unfold pI at h;refine aA true Tryz.func48 rfl (by rw[Tryz.ntmps48];exact qAa rfl) fun Q hQ t ht=>?_
 conv at ht=>whnf
 subst ht;refine .q fun K1 k1=>?_;refine rg 2 ?_
 conv=>whnf
 refine k1 _ _ ?_;refine .q fun K2 k2=>?_;refine rg 0 ?_
 conv=>whnf
 obtain⟨x1,hx1,h⟩:=ob h;refine au (Yw _ _ _ hx1) agB (.cons (.same _) .nil) (fun g=>by simp) (fun g=>by simp) ?_
 conv=>whnf
 refine k2 _ _ ?_;refine .q fun K3 k3=>?_;refine .q fun K4 k4=>?_;refine rg 0 ?_
 conv=>whnf
 refine k4 _ _ ?_;refine .block ?_;obtain⟨o1,ho1,h⟩:=ob h;have hR1:∀s2:Unit,o1=.nx s2→∀t9 h9,Le 0 t9 h9 (u16 (u4 (u2 []))) []→K3 t9 h9:=by
  intro s2 ho;subst ho;dsimp only[LR.el]at h;intro t9 h9 hw;refine k3 _ _ (AW.le hw ?_);refine .q fun K5 k5=>?_;refine rg 0 ?_
  conv=>whnf
  refine k5 _ _ ?_;refine .ret ?_
  conv=>whnf
  have e9:=sj h;subst e9;refine hQ _ _ _ (aF aL (fun g=>rfl) ?_)
  conv=>whnf
 refine .loopS (Af n p0 x1) (fun(s1:Int)=>(u2 (.ptr 0 0::(u2 (.slice (List.map encS x1) .shared::(.int .i64 s1::(u8 (u4 (u2 (.unk::[])))))))))) (fun(s1:Int)=>[.box [.slice (List.map aj p0.carriers) .shared,.slice (List.map aB p0.names) .shared]]) ho1 (fun _=>rfl) (wk [some 0] (.u2 (.c rfl (.u2 (.e bS (.c rfl (.u8 (.u4 (.u2 (.u .nil))))))))) (.b rfl (.e aJ (.e aQ .nil)) .nil) rfl) ?_;intro n1 s1 hs1 KL1 hKL1;unfold Af at hs1;refine .q fun K6 k6=>?_;refine .q fun K7 k7=>?_;refine rg 0 ?_
 conv=>whnf
 refine aY (l:=x1) (f:=encS) ?_
 conv=>whnf
 refine k7 _ _ ?_;refine .aK rfl hs1 (fun hc1 hs1=>?_) (fun hc1 hs1=>?_)
 ·refine .skip ?_
  conv=>whnf
  refine k6 _ _ ?_;refine .q fun K8 k8=>?_;refine .block ?_;refine .q fun K9 k9=>?_;refine rg 0 ?_
  conv=>whnf
  obtain⟨x2,hx2,hs1⟩:=ob hs1;refine bf (l:=x1) (f:=encS) (cs:=[.str (x2)]) hx2 (rfl) rfl ?_
  conv=>whnf
  obtain⟨x3,hx3,hs1⟩:=ob hs1;refine au (vo _ _ _ _ hx3) Wm (.cons (.same _) (.cons (.same _) .nil)) (fun g=>by simp) (fun g=>rfl) ?_
  conv=>whnf
  refine⟨by kernel_rfl,?_⟩
  conv=>whnf
  refine k9 _ _ ?_;refine .aK rfl hs1 (fun hc2 hs1=>?_) (fun hc2 hs1=>?_)
  ·refine .q fun K10 k10=>?_;refine rg 0 ?_
   conv=>whnf
   refine k10 _ _ ?_;refine .ret ?_
   conv=>whnf
   have e9:=sj hs1;subst e9;dsimp only[LR.el]at h;have e9:=sj h;subst e9;refine hQ _ _ _ (aF aL (fun g=>rfl) ?_)
   conv=>whnf
  refine .skip ?_
  conv=>whnf
  refine k8 _ _ ?_;refine .know 6 0 fun hv1=>?_;refine .know 5 0 fun hv2=>?_;refine rg 0 ?_
  conv=>whnf
  refine⟨(s1+1),by have:=fP hv1;have:=mO hv2;have h8:=of_decide_eq_true hc1;exact bT (by omega) (by omega),?_⟩
  conv=>whnf
  exact hKL1 _ _ _ hs1 (li (.u2 (.s (.u2 (.s (.s (.u8 (.u4 (.u2 (.u .n))))))))))
 refine .exit ?_
 conv=>whnf
 exact hR1 _ (sj hs1).symm _ _ (wk [] (.u16 (.u4 (.u2 .nil))) .nil rfl)
theorem e11x0{p q:Prop}(f:p→q)(h:p:=by exact wk [some 0] (.u (.c rfl (.u4 (.c rfl (.u64 (.u16 (.u2 (.c rfl (.u16 .nil))))))))) (.b rfl (.e aJ (.e aQ .nil)) .nil) rfl):q:=f h
theorem X5(n:Nat)(p0:Env)(r:List Str)(h:pR n p0=some r):ak Tryz.prog 101 [.agg [.slice (List.map aj p0.carriers) .shared,.slice (List.map aB p0.names) .shared]] [] (.slice (List.map encS r) (.tip 0 1)) [.tip (List.length r*1)]:=by
 unfold pR at h;refine aA false Tryz.func101 rfl (by rw[Tryz.ntmps101];exact qAa rfl) fun Q hQ t ht=>?_
 conv at ht=>whnf
 subst ht;refine .q fun K1 k1=>?_;refine rg 1 ?_
 conv=>whnf
 refine k1 _ _ ?_;refine .q fun K2 k2=>?_;refine rg 0 ?_
 conv=>whnf
 refine k2 _ _ ?_;refine .q fun K3 k3=>?_;refine .q fun K4 k4=>?_;refine rg 0 ?_
 conv=>whnf
 refine k4 _ _ ?_;refine .block ?_;obtain⟨o1,ho1,h⟩:=ob h;have hR1:∀s2:List Str,o1=.nx s2→∀t9 h9,Le 0 t9 h9 (.unk::(.ptr 0 0::(.unk::(.slice (List.map encS s2) (.tip 1 1)::(u32 (u16 (u2 (.unk::[])))))))) [.box [.slice (List.map aj p0.carriers) .shared,.slice (List.map aB p0.names) .shared],.tip (List.length s2*1)]→K3 t9 h9:=by
  intro s2 ho;subst ho;dsimp only[LR.el]at h;intro t9 h9 hw;refine k3 _ _ (AW.le hw ?_);refine .q fun K5 k5=>?_;refine .q fun K6 k6=>?_;refine rg 0 ?_
  conv=>whnf
  refine k6 _ _ ?_;refine .block ?_;obtain⟨o2,ho2,h⟩:=ob h;have hR2:∀s4:List Str,o2=.nx s4→∀t9 h9,Le 0 t9 h9 (.unk::(.ptr 0 0::(.unk::(.slice (List.map encS s4) (.tip 1 1)::(u32 (u16 (u2 (.unk::[])))))))) [.box [.slice (List.map aj p0.carriers) .shared,.slice (List.map aB p0.names) .shared],.tip (List.length s4*1)]→K5 t9 h9:=by
   intro s4 ho;subst ho;dsimp only[LR.el]at h;intro t9 h9 hw;refine k5 _ _ (AW.le hw ?_);refine .q fun K7 k7=>?_;refine .q fun K8 k8=>?_;refine rg 0 ?_
   conv=>whnf
   refine k8 _ _ ?_;refine .block ?_;obtain⟨o3,ho3,h⟩:=ob h;have hR3:∀s6:List Str,o3=.nx s6→∀t9 h9,Le 0 t9 h9 (u2 (.unk::(.slice (List.map encS s6) (.tip 0 1)::(u32 (u16 (u2 (.unk::[]))))))) [.tip (List.length s6*1)]→K7 t9 h9:=by
    intro s6 ho;subst ho;dsimp only[LR.el]at h;intro t9 h9 hw;refine k7 _ _ (AW.le hw ?_);refine .q fun K9 k9=>?_;refine rg 0 ?_
    conv=>whnf
    refine k9 _ _ ?_;refine .ret ?_
    conv=>whnf
    have e9:=sj h;subst e9;refine hQ _ _ _ (jf (u2 (.slice (List.map encS s6) (.tip 0 1)::(u32 (u16 (u4 []))))) [.tip (List.length s6*1)] (wk [some 0] (.u2 (.cons (.tK (bS _ _) rfl) (.u32 (.u16 (.u4 .nil))))) (.t rfl .nil) rfl) (dI aL [0] rfl (.cons (rfl) .nil) ?_))
    conv=>whnf
    first|rfl|(simp;done)|(simp;rfl)|(simp;and_intros<;>rfl)
   refine .loopS (wu n p0) (fun(s5:(List Str)×Int)=>(.unk::(.ptr 0 0::(.unk::(.slice (List.map encS s5.1) (.tip 1 1)::(u2 (.int .i64 s5.2::(u32 (u16 []))))))))) (fun(s5:(List Str)×Int)=>[.box [.slice (List.map aj p0.carriers) .shared,.slice (List.map aB p0.names) .shared],.tip (List.length s5.1*1)]) ho3 (fun _=>rfl) (li (.u (.s (.u (.s (.u2 (.s (.u16 (.u16 (.u16 .n)))))))))) ?_;intro n3 s5 hs3 KL3 hKL3;unfold wu at hs3;refine .q fun K10 k10=>?_;refine .q fun K11 k11=>?_;refine rg 0 ?_
   conv=>whnf
   refine aY (l:=p0.names) (f:=aB) ?_
   conv=>whnf
   refine k11 _ _ ?_;refine .aK rfl hs3 (fun hc1 hs3=>?_) (fun hc1 hs3=>?_)
   ·refine .skip ?_
    conv=>whnf
    refine k10 _ _ ?_;refine .q fun K12 k12=>?_;refine .block ?_;refine rg 2 ?_
    conv=>whnf
    obtain⟨x1,hx1,hs3⟩:=ob hs3;refine bf (l:=p0.names) (f:=aB) (cs:=[.str ((x1).name),.int .i64 (((x1).ty).kind),.str (((x1).ty).name),.slice (List.map aC (((x1).ty).kids)) .shared]) hx1 (rfl) rfl ?_
    conv=>whnf
    refine⟨List.map encS ([x1.name]),rfl,?_⟩
    conv=>whnf
    obtain⟨x2,hx2,hs3⟩:=ob hs3;refine jA (l:=s5.1) (ys:=[x1.name]) (f:=encS) hx2 Ls rfl rfl rfl ?_
    conv=>whnf
    refine k12 _ _ ?_;refine .know 6 0 fun hv1=>?_;refine .know 40 0 fun hv2=>?_;refine rg 0 ?_
    conv=>whnf
    refine⟨(s5.2+1),by have:=fP hv1;have:=mO hv2;have h8:=of_decide_eq_true hc1;exact bT (by omega) (by omega),?_⟩
    conv=>whnf
    exact hKL3 _ _ _ hs3 (wk [some 0,some 3] (.u (.c rfl (.u (.cons (.tK (bS _ _) rfl) (.u2 (.c rfl (.u32 (.u16 .nil)))))))) (.b rfl (.e aJ (.e aQ .nil)) (.t rfl .nil)) rfl)
   refine .exit ?_
   conv=>whnf
   exact hR3 _ (sj hs3).symm _ _ (wk [some 1] (.u2 (.u (.cons (.tK (bS _ _) rfl) (.u32 (.u16 (.u2 (.u .nil))))))) (.t rfl .nil) rfl)
  refine .loopS (vX n p0) (fun(s3:(List Str)×Int)=>(.unk::(.ptr 0 0::(.unk::(.slice (List.map encS s3.1) (.tip 1 1)::(.unk::(.int .i64 s3.2::(u32 (u16 (.unk::[])))))))))) (fun(s3:(List Str)×Int)=>[.box [.slice (List.map aj p0.carriers) .shared,.slice (List.map aB p0.names) .shared],.tip (List.length s3.1*1)]) ho2 (fun _=>rfl) (li (.u (.s (.u (.s (.u (.s (.u16 (.u16 (.u16 (.u .n))))))))))) ?_;intro n2 s3 hs2 KL2 hKL2;unfold vX at hs2;refine .q fun K13 k13=>?_;refine .q fun K14 k14=>?_;refine rg 0 ?_
  conv=>whnf
  refine aY (l:=p0.carriers) (f:=aj) ?_
  conv=>whnf
  refine k14 _ _ ?_;refine .aK rfl hs2 (fun hc2 hs2=>?_) (fun hc2 hs2=>?_)
  ·refine .skip ?_
   conv=>whnf
   refine k13 _ _ ?_;refine .q fun K15 k15=>?_;refine .block ?_;refine rg 1 ?_
   conv=>whnf
   obtain⟨x3,hx3,hs2⟩:=ob hs2;refine bf (l:=p0.carriers) (f:=aj) (cs:=[.str ((x3).name),.slice (List.map encS ((x3).elems)) .shared]) hx3 (rfl) rfl ?_
   conv=>whnf
   obtain⟨x4,hx4,hs2⟩:=ob hs2;refine jA (l:=s3.1) (ys:=x3.elems) (f:=encS) hx4 Ls rfl rfl rfl ?_
   conv=>whnf
   refine k15 _ _ ?_;refine .know 5 0 fun hv3=>?_;refine .know 25 0 fun hv4=>?_;refine rg 0 ?_
   conv=>whnf
   refine⟨(s3.2+1),by have:=fP hv3;have:=mO hv4;have h8:=of_decide_eq_true hc2;exact bT (by omega) (by omega),?_⟩
   conv=>whnf
   exact hKL2 _ _ _ hs2 (wk [some 0,some 2] (.u (.c rfl (.u (.cons (.tK (bS _ _) rfl) (.u (.c rfl (.u32 (.u16 (.u .nil))))))))) (.b rfl (.e aJ (.e aQ .nil)) (.t rfl .nil)) rfl)
  refine .exit ?_
  conv=>whnf
  exact hR2 _ (sj hs2).symm _ _ (li (.u (.s (.u (.s (.u16 (.u16 (.u16 (.u2 (.u .n))))))))))
 refine .loopS (wE n p0) (fun(s1:(List Str)×Int)=>(.unk::(.ptr 0 0::(.unk::(.slice (List.map encS s1.1) (.tip 1 1)::(.int .i64 s1.2::(u32 (u16 (u2 []))))))))) (fun(s1:(List Str)×Int)=>[.box [.slice (List.map aj p0.carriers) .shared,.slice (List.map aB p0.names) .shared],.tip (List.length s1.1*1)]) ho1 (fun _=>rfl) (wk [some 0,none] (.u (.c rfl (.u (.cons (.nils _ _) (.c rfl (.u32 (.u16 (.u2 .nil)))))))) (.b rfl (.e aJ (.e aQ .nil)) (.w rfl .nil)) rfl) ?_;intro n1 s1 hs1 KL1 hKL1;unfold wE at hs1;refine .q fun K16 k16=>?_;refine .q fun K17 k17=>?_;refine rg 0 ?_
 conv=>whnf
 refine aY (l:=p0.carriers) (f:=aj) ?_
 conv=>whnf
 refine k17 _ _ ?_;refine .aK rfl hs1 (fun hc3 hs1=>?_) (fun hc3 hs1=>?_)
 ·refine .skip ?_
  conv=>whnf
  refine k16 _ _ ?_;refine .q fun K18 k18=>?_;refine .block ?_;refine rg 2 ?_
  conv=>whnf
  obtain⟨x5,hx5,hs1⟩:=ob hs1;refine bf (l:=p0.carriers) (f:=aj) (cs:=[.str ((x5).name),.slice (List.map encS ((x5).elems)) .shared]) hx5 (rfl) rfl ?_
  conv=>whnf
  refine⟨List.map encS ([x5.name]),rfl,?_⟩
  conv=>whnf
  obtain⟨x6,hx6,hs1⟩:=ob hs1;refine jA (l:=s1.1) (ys:=[x5.name]) (f:=encS) hx6 Ls rfl rfl rfl ?_
  conv=>whnf
  refine k18 _ _ ?_;refine .know 4 0 fun hv5=>?_;refine .know 9 0 fun hv6=>?_;refine rg 0 ?_
  conv=>whnf
  refine⟨(s1.2+1),by have:=fP hv5;have:=mO hv6;have h8:=of_decide_eq_true hc3;exact bT (by omega) (by omega),?_⟩
  conv=>whnf
  exact hKL1 _ _ _ hs1 (wk [some 0,some 3] (.u (.c rfl (.u (.cons (.tK (bS _ _) rfl) (.c rfl (.u32 (.u16 (.u2 .nil)))))))) (.b rfl (.e aJ (.e aQ .nil)) (.t rfl .nil)) rfl)
 refine .exit ?_
 conv=>whnf
 exact hR1 _ (sj hs1).symm _ _ (li (.u (.s (.u (.s (.u16 (.u16 (.u16 (.u2 (.u .n))))))))))
theorem Eo(n:Nat)(p0:Env)(r:Bool)(h:jg n p0=some r):ak Tryz.prog 46 [.agg [.slice (List.map aj p0.carriers) .shared,.slice (List.map aB p0.names) .shared]] [] (.bool r) []:=by
 unfold jg at h;refine aA true Tryz.func46 rfl (by rw[Tryz.ntmps46];exact qAa rfl) fun Q hQ t ht=>?_
 conv at ht=>whnf
 subst ht;refine .q fun K1 k1=>?_;refine rg 1 ?_
 conv=>whnf
 refine k1 _ _ ?_;refine .q fun K2 k2=>?_;refine .q fun K3 k3=>?_;obtain⟨s1,hj1,h⟩:=ob h;have hR1:∀t9 h9,Le 0 t9 h9 (.unk::(.ptr 0 0::(u16 (.unk::(.bool s1::(u64 (u16 (u4 (u2 []))))))))) [.box [.slice (List.map aj p0.carriers) .shared,.slice (List.map aB p0.names) .shared]]→K3 t9 h9:=by
  intro t9 h9 hw;refine k3 _ _ (AW.le hw ?_);clear hw;refine .aK rfl h (fun hc1 h=>?_) (fun hc1 h=>?_)
  ·refine .q fun K4 k4=>?_;refine rg 0 ?_
   conv=>whnf
   refine k4 _ _ ?_;refine .ret ?_
   conv=>whnf
   have e9:=sj h;subst e9;refine hQ _ _ _ (aF aL (fun g=>rfl) ?_)
   conv=>whnf
  refine .skip ?_
  conv=>whnf
  refine k2 _ _ ?_;refine .q fun K5 k5=>?_;refine .q fun K6 k6=>?_;refine rg 0 ?_
  conv=>whnf
  refine k6 _ _ ?_;refine .block ?_;obtain⟨o1,ho1,h⟩:=ob h;have hR2:∀s3:Unit,o1=.nx s3→∀t9 h9,Le 0 t9 h9 (.unk::(.ptr 0 0::(u64 (u32 (u8 []))))) [.box [.slice (List.map aj p0.carriers) .shared,.slice (List.map aB p0.names) .shared]]→K5 t9 h9:=by
   intro s3 ho;subst ho;dsimp only[LR.el]at h;intro t9 h9 hw;refine k5 _ _ (AW.le hw ?_);refine .q fun K7 k7=>?_;refine .q fun K8 k8=>?_;refine rg 0 ?_
   conv=>whnf
   refine k8 _ _ ?_;refine .block ?_;obtain⟨o2,ho2,h⟩:=ob h;have hR3:∀s5:Unit,o2=.nx s5→∀t9 h9,Le 0 t9 h9 (.unk::(.ptr 0 0::(u64 (u32 (u8 []))))) [.box [.slice (List.map aj p0.carriers) .shared,.slice (List.map aB p0.names) .shared]]→K7 t9 h9:=by
    intro s5 ho;subst ho;dsimp only[LR.el]at h;intro t9 h9 hw;refine k7 _ _ (AW.le hw ?_);refine .q fun K9 k9=>?_;refine rg 1 ?_
    conv=>whnf
    obtain⟨x1,hx1,h⟩:=ob h;refine dP [] [1] [.agg [.slice (List.map aj p0.carriers) .shared,.slice (List.map aB p0.names) .shared]] [.agg [.slice (List.map aj p0.carriers) .shared,.slice (List.map aB p0.names) .shared]] (X5 _ _ _ hx1) anP rfl .nil (by simp;try decide) (.cons (.same _) .nil) (rn:=.slice (List.map encS x1) (.tip 1 1)) (by simp;try decide) (Hn:=[.tip (List.length x1*1)]) ((fC (rfl) rfl)) ?_
    conv=>whnf
    refine k9 _ _ ?_;refine .q fun K10 k10=>?_;refine .q fun K11 k11=>?_;refine rg 0 ?_
    conv=>whnf
    refine k11 _ _ ?_;refine .block ?_;obtain⟨o3,ho3,h⟩:=ob h;have hR4:∀s7:Unit,o3=.nx s7→∀t9 h9,Le 0 t9 h9 (u64 (u32 (u8 (u2 [])))) []→K10 t9 h9:=by
     intro s7 ho;subst ho;dsimp only[LR.el]at h;intro t9 h9 hw;refine k10 _ _ (AW.le hw ?_);refine .q fun K12 k12=>?_;refine rg 0 ?_
     conv=>whnf
     refine k12 _ _ ?_;refine .ret ?_
     conv=>whnf
     have e9:=sj h;subst e9;refine hQ _ _ _ (aF aL (fun g=>rfl) ?_)
     conv=>whnf
    refine .loopS (rV n x1) (fun(s6:Int)=>(u8 (.slice (List.map encS x1) (.tip 0 1)::(.int .i64 s6::(u64 (u32 [])))))) (fun(s6:Int)=>[.tip (List.length x1*1)]) ho3 (fun _=>rfl) (wk [some 1] (.u8 (.cons (.tK (bS _ _) rfl) (.c rfl (.u64 (.u32 .nil))))) (.t rfl .nil) rfl) ?_;intro n3 s6 hs3 KL3 hKL3;unfold rV at hs3;refine .q fun K13 k13=>?_;refine .q fun K14 k14=>?_;refine rg 0 ?_
    conv=>whnf
    refine aY (l:=x1) (f:=encS) ?_
    conv=>whnf
    refine k14 _ _ ?_;refine .aK rfl hs3 (fun hc2 hs3=>?_) (fun hc2 hs3=>?_)
    ·refine .skip ?_
     conv=>whnf
     refine k13 _ _ ?_;refine .q fun K15 k15=>?_;refine .block ?_;refine .q fun K16 k16=>?_;refine rg 0 ?_
     conv=>whnf
     obtain⟨x2,hx2,hs3⟩:=ob hs3;refine bf (l:=x1) (f:=encS) (cs:=[.str (x2)]) hx2 (rfl) rfl ?_
     conv=>whnf
     obtain⟨x3,hx3,hs3⟩:=ob hs3;refine M9 (l:=x1) (f:=encS) hx3 (.none _) (.int _ _ _) Ls ?_
     conv=>whnf
     obtain⟨x4,hx4,hs3⟩:=ob hs3;refine au (adw _ _ _ _ hx4) afP (.cons (.same _) (.cons (.same _) .nil)) (fun g=>by simp) (fun g=>rfl) ?_
     conv=>whnf
     refine⟨by kernel_rfl,?_⟩
     conv=>whnf
     refine k16 _ _ ?_;refine .aK rfl hs3 (fun hc3 hs3=>?_) (fun hc3 hs3=>?_)
     ·refine .q fun K17 k17=>?_;refine rg 0 ?_
      conv=>whnf
      refine k17 _ _ ?_;refine .ret ?_
      conv=>whnf
      have e9:=sj hs3;subst e9;dsimp only[LR.el]at h;have e9:=sj h;subst e9;refine hQ _ _ _ (aF aL (fun g=>rfl) ?_)
      conv=>whnf
     refine .skip ?_
     conv=>whnf
     refine k15 _ _ ?_;refine .know 9 0 fun hv1=>?_;refine .know 8 0 fun hv2=>?_;refine rg 0 ?_
     conv=>whnf
     refine⟨(s6+1),by have:=fP hv1;have:=mO hv2;have h8:=of_decide_eq_true hc2;exact bT (by omega) (by omega),?_⟩
     conv=>whnf
     exact hKL3 _ _ _ hs3 (li (.u8 (.s (.s (.u16 (.u16 (.u16 (.u16 (.u16 (.u16 .n))))))))))
    refine .exit ?_
    conv=>whnf
    exact hR4 _ (sj hs3).symm _ _ (wk [] (.u64 (.u32 (.u8 (.u2 .nil)))) .nil rfl)
   refine .loopS (wF n p0) (fun(s4:Int)=>(.unk::(.ptr 0 0::(u4 (.int .i64 s4::(u64 (u32 (u2 (.unk::[]))))))))) (fun(s4:Int)=>[.box [.slice (List.map aj p0.carriers) .shared,.slice (List.map aB p0.names) .shared]]) ho2 (fun _=>rfl) (li (.u (.s (.u4 (.s (.u16 (.u16 (.u16 (.u16 (.u16 (.u16 (.u2 (.u .n))))))))))))) ?_;intro n2 s4 hs2 KL2 hKL2;unfold wF at hs2;refine .q fun K18 k18=>?_;refine .q fun K19 k19=>?_;refine rg 0 ?_
   conv=>whnf
   refine aY (l:=p0.names) (f:=aB) ?_
   conv=>whnf
   refine k19 _ _ ?_;refine .aK rfl hs2 (fun hc4 hs2=>?_) (fun hc4 hs2=>?_)
   ·refine .skip ?_
    conv=>whnf
    refine k18 _ _ ?_;refine .q fun K20 k20=>?_;refine .block ?_;refine .q fun K21 k21=>?_;refine rg 1 ?_
    conv=>whnf
    obtain⟨x5,hx5,hs2⟩:=ob hs2;refine bf (l:=p0.names) (f:=aB) (cs:=[.str ((x5).name),.int .i64 (((x5).ty).kind),.str (((x5).ty).name),.slice (List.map aC (((x5).ty).kids)) .shared]) hx5 (rfl) rfl ?_
    conv=>whnf
    refine k21 _ _ ?_;refine .q fun K22 k22=>?_;obtain⟨s8,hj2,hs2⟩:=ob hs2;have hR5:∀t9 h9,Le 0 t9 h9 (.unk::(.ptr 0 0::(u4 (.int .i64 s4::(u64 (u16 (u2 (.bool s8::(u16 []))))))))) [.box [.slice (List.map aj p0.carriers) .shared,.slice (List.map aB p0.names) .shared]]→K22 t9 h9:=by
     intro t9 h9 hw;refine k22 _ _ (AW.le hw ?_);clear hw;refine .aK rfl hs2 (fun hc5 hs2=>?_) (fun hc5 hs2=>?_)
     ·refine .q fun K23 k23=>?_;refine rg 0 ?_
      conv=>whnf
      refine k23 _ _ ?_;refine .ret ?_
      conv=>whnf
      have e9:=sj hs2;subst e9;dsimp only[LR.el]at h;have e9:=sj h;subst e9;refine hQ _ _ _ (aF aL (fun g=>rfl) ?_)
      conv=>whnf
     refine .skip ?_
     conv=>whnf
     refine k20 _ _ ?_;refine .know 6 0 fun hv3=>?_;refine .ahk 0 1 (fun hv4=>?_) ⟨1,0,rfl⟩;refine rg 0 ?_
     conv=>whnf
     refine⟨(s4+1),by have:=fP hv3;have:=mO hv4;have h8:=of_decide_eq_true hc4;exact bT (by omega) (by omega),?_⟩
     conv=>whnf
     exact hKL2 _ _ _ hs2 (li (.u (.s (.u4 (.s (.u16 (.u16 (.u16 (.u16 (.u16 (.u16 (.u2 (.u .n)))))))))))))
    refine rg 0 ?_
    conv=>whnf
    obtain⟨x6,hx6,hj2⟩:=ob hj2;refine au (aeT _ _ _ hx6) aqy (.cons (.same _) .nil) (fun g=>rfl) (fun g=>rfl) ?_
    conv=>whnf
    refine aD hj2 (fun hc6 hj2=>?_) (fun hc6 hj2=>?_)
    ·conv=>whnf
     cases hj2;exact e11x0 (hR5 _ _)
    conv=>whnf
    obtain⟨x7,hx7,hj2⟩:=ob hj2;refine au (yD _ _ _ hx7) Vz (.cons (.same _) .nil) (fun g=>by simp) (fun g=>rfl) ?_
    conv=>whnf
    refine aD hj2 (fun hc7 hj2=>?_) (fun hc7 hj2=>?_)
    ·conv=>whnf
     cases hj2;exact e11x0 (hR5 _ _)
    conv=>whnf
    obtain⟨x8,hx8,hj2⟩:=ob hj2;refine au (Vg _ _ _ hx8) agI (.cons (.same _) .nil) (fun g=>by simp) (fun g=>rfl) ?_
    conv=>whnf
    refine aD hj2 (fun hc8 hj2=>?_) (fun hc8 hj2=>?_)
    ·conv=>whnf
     cases hj2;exact e11x0 (hR5 _ _)
    conv=>whnf
    obtain⟨x9,hx9,hj2⟩:=ob hj2;refine au (EC _ _ _ _ hx9) Wd (.cons (.same _) (.cons (.same _) .nil)) (fun g=>by simp) (fun g=>rfl) ?_
    conv=>whnf
    cases hj2;exact e11x0 (hR5 _ _)
   refine .exit ?_
   conv=>whnf
   exact hR3 _ (sj hs2).symm _ _ (li (.u (.s (.u16 (.u16 (.u16 (.u16 (.u16 (.u16 (.u8 .n))))))))))
  refine .loopS (vB n p0) (fun(s2:Int)=>(.unk::(.ptr 0 0::(.unk::(.int .i64 s2::(u64 (u32 (u4 (u2 []))))))))) (fun(s2:Int)=>[.box [.slice (List.map aj p0.carriers) .shared,.slice (List.map aB p0.names) .shared]]) ho1 (fun _=>rfl) (li (.u (.s (.u (.s (.u16 (.u16 (.u16 (.u16 (.u16 (.u16 (.u4 (.u2 .n))))))))))))) ?_;intro n1 s2 hs1 KL1 hKL1;unfold vB at hs1;refine .q fun K24 k24=>?_;refine .q fun K25 k25=>?_;refine rg 0 ?_
  conv=>whnf
  refine aY (l:=p0.carriers) (f:=aj) ?_
  conv=>whnf
  refine k25 _ _ ?_;refine .aK rfl hs1 (fun hc9 hs1=>?_) (fun hc9 hs1=>?_)
  ·refine .skip ?_
   conv=>whnf
   refine k24 _ _ ?_;refine .q fun K26 k26=>?_;refine .block ?_;refine .q fun K27 k27=>?_;refine rg 1 ?_
   conv=>whnf
   obtain⟨x10,hx10,hs1⟩:=ob hs1;refine bf (l:=p0.carriers) (f:=aj) (cs:=[.str ((x10).name),.slice (List.map encS ((x10).elems)) .shared]) hx10 (rfl) rfl ?_
   conv=>whnf
   refine k27 _ _ ?_;refine .q fun K28 k28=>?_;refine .q fun K29 k29=>?_;obtain⟨s9,hj3,hs1⟩:=ob hs1;have hR6:∀t9 h9,Le 0 t9 h9 (.unk::(.ptr 0 0::(.unk::(.int .i64 s2::(.ptr 1 0::(u32 (u4 (.bool s9::(u64 []))))))))) [.box [.slice (List.map aj p0.carriers) .shared,.slice (List.map aB p0.names) .shared],.box [.str x10.name,.slice (List.map encS x10.elems) .shared]]→K29 t9 h9:=by
    intro t9 h9 hw;refine k29 _ _ (AW.le hw ?_);clear hw;refine .aK rfl hs1 (fun hc10 hs1=>?_) (fun hc10 hs1=>?_)
    ·refine .q fun K30 k30=>?_;refine rg 0 ?_
     conv=>whnf
     refine k30 _ _ ?_;refine .ret ?_
     conv=>whnf
     have e9:=sj hs1;subst e9;dsimp only[LR.el]at h;have e9:=sj h;subst e9;refine hQ _ _ _ (aF aL (fun g=>rfl) ?_)
     conv=>whnf
    refine .skip ?_
    conv=>whnf
    refine k28 _ _ ?_;refine .q fun K31 k31=>?_;refine rg 0 ?_
    conv=>whnf
    refine k31 _ _ ?_;refine .block ?_;obtain⟨o4,ho4,hs1⟩:=ob hs1;have hR7:∀s11:Unit,o4=.nx s11→∀t9 h9,Le 0 t9 h9 (.unk::(.ptr 0 0::(.unk::(.int .i64 s2::(u64 (u32 (u4 (u2 [])))))))) [.box [.slice (List.map aj p0.carriers) .shared,.slice (List.map aB p0.names) .shared]]→K26 t9 h9:=by
     intro s11 ho;subst ho;dsimp only[LR.el]at hs1;intro t9 h9 hw;refine k26 _ _ (AW.le hw ?_);refine .know 3 0 fun hv5=>?_;refine .ahk 0 0 (fun hv6=>?_) ⟨1,0,rfl⟩;refine rg 0 ?_
     conv=>whnf
     refine⟨(s2+1),by have:=fP hv5;have:=mO hv6;have h8:=of_decide_eq_true hc9;exact bT (by omega) (by omega),?_⟩
     conv=>whnf
     exact hKL1 _ _ _ hs1 (li (.u (.s (.u (.s (.u16 (.u16 (.u16 (.u16 (.u16 (.u16 (.u4 (.u2 .n)))))))))))))
    refine .loopS (pq n x10) (fun(s10:Int)=>(.unk::(.ptr 0 0::(.unk::(.int .i64 s2::(.ptr 1 0::(.int .i64 s10::(u64 (u32 (u4 [])))))))))) (fun(s10:Int)=>[.box [.slice (List.map aj p0.carriers) .shared,.slice (List.map aB p0.names) .shared],.box [.str x10.name,.slice (List.map encS x10.elems) .shared]]) ho4 (fun _=>rfl) (li (.u (.s (.u (.s (.s (.s (.u16 (.u16 (.u16 (.u16 (.u16 (.u16 (.u4 .n)))))))))))))) ?_;intro n4 s10 hs4 KL4 hKL4;unfold pq at hs4;refine .q fun K32 k32=>?_;refine .q fun K33 k33=>?_;refine rg 0 ?_
    conv=>whnf
    refine aY (l:=x10.elems) (f:=encS) ?_
    conv=>whnf
    refine k33 _ _ ?_;refine .aK rfl hs4 (fun hc11 hs4=>?_) (fun hc11 hs4=>?_)
    ·refine .skip ?_
     conv=>whnf
     refine k32 _ _ ?_;refine .q fun K34 k34=>?_;refine .block ?_;refine .q fun K35 k35=>?_;refine rg 0 ?_
     conv=>whnf
     obtain⟨x11,hx11,hs4⟩:=ob hs4;refine bf (l:=x10.elems) (f:=encS) (cs:=[.str (x11)]) hx11 (rfl) rfl ?_
     conv=>whnf
     obtain⟨x12,hx12,hs4⟩:=ob hs4;refine au (sK _ _ _ hx12) Pz (.cons (.same _) .nil) (fun g=>rfl) (fun g=>rfl) ?_
     conv=>whnf
     refine k35 _ _ ?_;refine .aK rfl hs4 (fun hc12 hs4=>?_) (fun hc12 hs4=>?_)
     ·refine .q fun K36 k36=>?_;refine rg 0 ?_
      conv=>whnf
      refine k36 _ _ ?_;refine .ret ?_
      conv=>whnf
      have e9:=sj hs4;subst e9;dsimp only[LR.el]at hs1;have e9:=sj hs1;subst e9;dsimp only[LR.el]at h;have e9:=sj h;subst e9;refine hQ _ _ _ (aF aL (fun g=>rfl) ?_)
      conv=>whnf
     refine .skip ?_
     conv=>whnf
     refine k34 _ _ ?_;refine .know 5 0 fun hv7=>?_;refine .know 44 0 fun hv8=>?_;refine rg 0 ?_
     conv=>whnf
     refine⟨(s10+1),by have:=fP hv7;have:=mO hv8;have h8:=of_decide_eq_true hc11;exact bT (by omega) (by omega),?_⟩
     conv=>whnf
     exact hKL4 _ _ _ hs4 (li (.u (.s (.u (.s (.s (.s (.u16 (.u16 (.u16 (.u16 (.u16 (.u16 (.u4 .n))))))))))))))
    refine .exit ?_
    conv=>whnf
    exact hR7 _ (sj hs4).symm _ _ (wk [some 0] (.u (.c rfl (.u (.c rfl (.u64 (.u32 (.u4 (.u2 .nil)))))))) (.b rfl (.e aJ (.e aQ .nil)) .nil) rfl)
   refine rg 0 ?_
   conv=>whnf
   obtain⟨x13,hx13,hj3⟩:=ob hj3;refine au (sK _ _ _ hx13) Pz (.cons (.same _) .nil) (fun g=>rfl) (fun g=>rfl) ?_
   conv=>whnf
   refine aD hj3 (fun hc13 hj3=>?_) (fun hc13 hj3=>?_)
   ·conv=>whnf
    cases hj3;exact hR6 _ _ (li (.u (.s (.u (.s (.s (.u16 (.u16 (.u4 (.s (.u16 (.u16 (.u16 (.u16 .n))))))))))))))
   conv=>whnf
   refine aY (l:=x10.elems) (f:=encS) ?_
   conv=>whnf
   cases hj3;exact hR6 _ _ (li (.u (.s (.u (.s (.s (.u16 (.u16 (.u4 (.s (.u16 (.u16 (.u16 (.u16 .n))))))))))))))
  refine .exit ?_
  conv=>whnf
  exact hR2 _ (sj hs1).symm _ _ (li (.u (.s (.u16 (.u16 (.u16 (.u16 (.u16 (.u16 (.u8 .n))))))))))
 refine rg 0 ?_
 conv=>whnf
 refine aY (l:=p0.carriers) (f:=aj) ?_
 conv=>whnf
 refine aD hj1 (fun hc14 hj1=>?_) (fun hc14 hj1=>?_)
 ·conv=>whnf
  cases hj1;exact hR1 _ _ (li (.u (.s (.u16 (.u (.s (.u16 (.u16 (.u16 (.u16 (.u16 (.u4 (.u2 .n)))))))))))))
 conv=>whnf
 refine aY (l:=p0.names) (f:=aB) ?_
 conv=>whnf
 cases hj1;exact hR1 _ _ (li (.u (.s (.u16 (.u (.s (.u16 (.u16 (.u16 (.u16 (.u16 (.u4 (.u2 .n)))))))))))))
theorem M0(n:Nat)(p0:Env)(p1:List Int)(r:Bool)(h:Dr n p0 p1=some r):ak Tryz.prog 49 [.agg [.slice (List.map aj p0.carriers) .shared,.slice (List.map aB p0.names) .shared],.slice (List.map encI p1) .shared] [] (.bool r) []:=by
 unfold Dr at h;refine aA true Tryz.func49 rfl (by rw[Tryz.ntmps49];exact qAa rfl) fun Q hQ t ht=>?_
 conv at ht=>whnf
 subst ht;refine .q fun K1 k1=>?_;refine rg 1 ?_
 conv=>whnf
 refine k1 _ _ ?_;refine .q fun K2 k2=>?_;refine .q fun K3 k3=>?_;refine rg 0 ?_
 conv=>whnf
 refine aY (l:=p1) (f:=encI) ?_
 conv=>whnf
 refine aY (l:=p0.carriers) (f:=aj) ?_
 conv=>whnf
 refine k3 _ _ ?_;refine .aK rfl h (fun hc1 h=>?_) (fun hc1 h=>?_)
 ·refine .q fun K4 k4=>?_;refine rg 0 ?_
  conv=>whnf
  refine k4 _ _ ?_;refine .ret ?_
  conv=>whnf
  have e9:=sj h;subst e9;refine hQ _ _ _ (aF aL (fun g=>rfl) ?_)
  conv=>whnf
 refine .skip ?_
 conv=>whnf
 refine k2 _ _ ?_;refine .q fun K5 k5=>?_;refine .q fun K6 k6=>?_;refine rg 0 ?_
 conv=>whnf
 refine k6 _ _ ?_;refine .block ?_;obtain⟨o1,ho1,h⟩:=ob h;have hR1:∀s2:Unit,o1=.nx s2→∀t9 h9,Le 0 t9 h9 (u32 (u16 (u2 []))) []→K5 t9 h9:=by
  intro s2 ho;subst ho;dsimp only[LR.el]at h;intro t9 h9 hw;refine k5 _ _ (AW.le hw ?_);refine .q fun K7 k7=>?_;refine rg 0 ?_
  conv=>whnf
  refine k7 _ _ ?_;refine .ret ?_
  conv=>whnf
  have e9:=sj h;subst e9;refine hQ _ _ _ (aF aL (fun g=>rfl) ?_)
  conv=>whnf
 refine .loopS (xk n p0 p1) (fun(s1:Int)=>(.unk::(.slice (List.map encI p1) .shared::(.ptr 0 0::(u2 (.int .i64 s1::(u32 (u8 (u4 []))))))))) (fun(s1:Int)=>[.box [.slice (List.map aj p0.carriers) .shared,.slice (List.map aB p0.names) .shared]]) ho1 (fun _=>rfl) (li (.u (.s (.s (.u2 (.s (.u16 (.u16 (.u8 (.u4 .n)))))))))) ?_;intro n1 s1 hs1 KL1 hKL1;unfold xk at hs1;refine .q fun K8 k8=>?_;refine .q fun K9 k9=>?_;refine rg 0 ?_
 conv=>whnf
 refine aY (l:=p1) (f:=encI) ?_
 conv=>whnf
 refine k9 _ _ ?_;refine .aK rfl hs1 (fun hc2 hs1=>?_) (fun hc2 hs1=>?_)
 ·refine .skip ?_
  conv=>whnf
  refine k8 _ _ ?_;refine .q fun K10 k10=>?_;refine .block ?_;refine .q fun K11 k11=>?_;refine rg 0 ?_
  conv=>whnf
  obtain⟨x1,hx1,hs1⟩:=ob hs1;refine bf (l:=p0.carriers) (f:=aj) (cs:=[.str ((x1).name),.slice (List.map encS ((x1).elems)) .shared]) hx1 (rfl) rfl ?_
  conv=>whnf
  refine aY (l:=x1.elems) (f:=encS) ?_
  conv=>whnf
  refine k11 _ _ ?_;refine .q fun K12 k12=>?_;obtain⟨s3,hj1,hs1⟩:=ob hs1;have hR2:∀t9 h9,Le 0 t9 h9 (.unk::(.slice (List.map encI p1) .shared::(.ptr 0 0::(u2 (.int .i64 s1::(u32 (u8 (u2 (.unk::(.bool s3::[])))))))))) [.box [.slice (List.map aj p0.carriers) .shared,.slice (List.map aB p0.names) .shared]]→K12 t9 h9:=by
   intro t9 h9 hw;refine k12 _ _ (AW.le hw ?_);clear hw;refine .aK rfl hs1 (fun hc3 hs1=>?_) (fun hc3 hs1=>?_)
   ·refine .q fun K13 k13=>?_;refine rg 0 ?_
    conv=>whnf
    refine k13 _ _ ?_;refine .ret ?_
    conv=>whnf
    have e9:=sj hs1;subst e9;dsimp only[LR.el]at h;have e9:=sj h;subst e9;refine hQ _ _ _ (aF aL (fun g=>rfl) ?_)
    conv=>whnf
   refine .skip ?_
   conv=>whnf
   refine k10 _ _ ?_;refine .know 5 0 fun hv1=>?_;refine .know 1 0 fun hv2=>?_;refine rg 0 ?_
   conv=>whnf
   refine⟨(s1+1),by have:=fP hv1;have:=mO hv2;have h8:=of_decide_eq_true hc2;exact bT (by omega) (by omega),?_⟩
   conv=>whnf
   exact hKL1 _ _ _ hs1 (li (.u (.s (.s (.u2 (.s (.u16 (.u16 (.u8 (.u4 .n))))))))))
  refine rg 0 ?_
  conv=>whnf
  obtain⟨x2,hx2,hj1⟩:=ob hj1;refine bf (l:=p1) (f:=encI) (cs:=[.int .i64 (x2)]) hx2 (rfl) rfl ?_
  conv=>whnf
  refine aD hj1 (fun hc4 hj1=>?_) (fun hc4 hj1=>?_)
  ·conv=>whnf
   cases hj1;exact hR2 _ _ (li (.u (.s (.s (.u2 (.s (.u16 (.u16 (.u8 (.u2 (.u (.s .n))))))))))))
  conv=>whnf
  obtain⟨x3,hx3,hj1⟩:=ob hj1;refine bf (l:=p1) (f:=encI) (cs:=[.int .i64 (x3)]) hx3 (rfl) rfl ?_
  conv=>whnf
  refine aD hj1 (fun hc5 hj1=>?_) (fun hc5 hj1=>?_)
  ·conv=>whnf
   cases hj1;exact hR2 _ _ (li (.u (.s (.s (.u2 (.s (.u16 (.u16 (.u8 (.u2 (.u (.s .n))))))))))))
  conv=>whnf
  refine aD hj1 (fun hc6 hj1=>?_) (fun hc6 hj1=>?_)
  ·conv=>whnf
   obtain⟨x4,hx4,hj1⟩:=ob hj1;refine bf (l:=p1) (f:=encI) (cs:=[.int .i64 (x4)]) hx4 (rfl) rfl ?_
   conv=>whnf
   cases hj1;exact hR2 _ _ (li (.u (.s (.s (.u2 (.s (.u16 (.u16 (.u8 (.u2 (.u (.s .n))))))))))))
  conv=>whnf
  cases hj1;exact hR2 _ _ (li (.u (.s (.s (.u2 (.s (.u16 (.u16 (.u8 (.u2 (.u (.s .n))))))))))))
 refine .exit ?_
 conv=>whnf
 exact hR1 _ (sj hs1).symm _ _ (wk [] (.u32 (.u16 (.u2 .nil))) .nil rfl)
theorem e14x0{p q:Prop}(f:p→q)(h:p:=by exact wk [] (.u4 (.c rfl (.u16 (.u8 (.u .nil))))) .nil rfl):q:=f h
theorem Fh(n:Nat)(p0:Env)(p1:S_api_Scope)(r:Bool)(h:l9 n p0 p1=some r):ak Tryz.prog 15 [.agg [.slice (List.map aj p0.carriers) .shared,.slice (List.map aB p0.names) .shared],.agg [.slice (List.map encI p1.sizes) .shared,.int .i64 p1.lo,.int .i64 p1.hi]] [] (.bool r) []:=by
 unfold l9 at h;refine aA true Tryz.func15 rfl (by rw[Tryz.ntmps15];exact qAa rfl) fun Q hQ t ht=>?_
 conv at ht=>whnf
 subst ht;refine .q fun K1 k1=>?_;refine rg 2 ?_
 conv=>whnf
 refine k1 _ _ ?_;refine .q fun K2 k2=>?_;obtain⟨s1,hj1,h⟩:=ob h;have hR1:∀t9 h9,Le 0 t9 h9 (u4 (.bool s1::(u16 (u8 (.unk::[]))))) []→K2 t9 h9:=by
  intro t9 h9 hw;refine k2 _ _ (AW.le hw ?_);clear hw;refine .ret ?_
  conv=>whnf
  have e9:=sj h;subst e9;refine hQ _ _ _ (aF aL (fun g=>rfl) ?_)
  conv=>whnf
 refine rg 0 ?_
 conv=>whnf
 obtain⟨x1,hx1,hj1⟩:=ob hj1;refine au (yZ _ _ _ hx1) acf (.cons (.same _) .nil) (fun g=>by simp) (fun g=>rfl) ?_
 conv=>whnf
 refine aD hj1 (fun hc1 hj1=>?_) (fun hc1 hj1=>?_)
 ·conv=>whnf
  obtain⟨x2,hx2,hj1⟩:=ob hj1;refine au (Bc _ _ _ _ hx2) ad6 (.cons (.same _) (.cons (.same _) .nil)) (fun g=>by simp) (fun g=>rfl) ?_
  conv=>whnf
  refine aD hj1 (fun hc2 hj1=>?_) (fun hc2 hj1=>?_)
  ·conv=>whnf
   refine aD hj1 (fun hc3 hj1=>?_) (fun hc3 hj1=>?_)
   ·conv=>whnf
    refine aD hj1 (fun hc4 hj1=>?_) (fun hc4 hj1=>?_)
    ·conv=>whnf
     cases hj1;exact e14x0 (hR1 _ _)
    conv=>whnf
    cases hj1;exact e14x0 (hR1 _ _)
   conv=>whnf
   cases hj1;exact e14x0 (hR1 _ _)
  conv=>whnf
  cases hj1;exact e14x0 (hR1 _ _)
 conv=>whnf
 cases hj1;exact e14x0 (hR1 _ _)
theorem Ii(n:Nat)(p0:Env)(p1:S_api_Scope)(r:Bool)(h:oN n p0 p1=some r):ak Tryz.prog 16 [.agg [.slice (List.map aj p0.carriers) .shared,.slice (List.map aB p0.names) .shared],.agg [.slice (List.map encI p1.sizes) .shared,.int .i64 p1.lo,.int .i64 p1.hi]] [] (.bool r) []:=by
 unfold oN at h;refine aA true Tryz.func16 rfl (by rw[Tryz.ntmps16];exact qAa rfl) fun Q hQ t ht=>?_
 conv at ht=>whnf
 subst ht;refine .q fun K1 k1=>?_;refine rg 2 ?_
 conv=>whnf
 refine k1 _ _ ?_;refine .q fun K2 k2=>?_;obtain⟨s1,hj1,h⟩:=ob h;have hR1:∀t9 h9,Le 0 t9 h9 (u4 (.bool s1::(u16 (u8 (.unk::[]))))) []→K2 t9 h9:=by
  intro t9 h9 hw;refine k2 _ _ (AW.le hw ?_);clear hw;refine .ret ?_
  conv=>whnf
  have e9:=sj h;subst e9;refine hQ _ _ _ (aF aL (fun g=>rfl) ?_)
  conv=>whnf
 refine rg 0 ?_
 conv=>whnf
 obtain⟨x1,hx1,hj1⟩:=ob hj1;refine au (Eo _ _ _ hx1) aci (.cons (.same _) .nil) (fun g=>by simp) (fun g=>rfl) ?_
 conv=>whnf
 refine aD hj1 (fun hc1 hj1=>?_) (fun hc1 hj1=>?_)
 ·conv=>whnf
  obtain⟨x2,hx2,hj1⟩:=ob hj1;refine au (M0 _ _ _ _ hx2) adT (.cons (.same _) (.cons (.same _) .nil)) (fun g=>by simp) (fun g=>rfl) ?_
  conv=>whnf
  refine aD hj1 (fun hc2 hj1=>?_) (fun hc2 hj1=>?_)
  ·conv=>whnf
   refine aD hj1 (fun hc3 hj1=>?_) (fun hc3 hj1=>?_)
   ·conv=>whnf
    refine aD hj1 (fun hc4 hj1=>?_) (fun hc4 hj1=>?_)
    ·conv=>whnf
     cases hj1;exact e14x0 (hR1 _ _)
    conv=>whnf
    cases hj1;exact e14x0 (hR1 _ _)
   conv=>whnf
   cases hj1;exact e14x0 (hR1 _ _)
  conv=>whnf
  cases hj1;exact e14x0 (hR1 _ _)
 conv=>whnf
 cases hj1;exact e14x0 (hR1 _ _)
end Abs
end Go.Proofs.YtkopaeklihhdlaaGreat

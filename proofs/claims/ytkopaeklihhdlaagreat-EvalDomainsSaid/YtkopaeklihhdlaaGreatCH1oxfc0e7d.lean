/-
  Contracts of Go functions (printed). Conditions: none.
-/
import Derived.KernelRfl
import Derived.Test.YtkopaeklihhdlaaGreatCAwoxfa8182
import Derived.Test.YtkopaeklihhdlaaGreatCHDoxb90096
set_option linter.all false
namespace Go.Proofs.YtkopaeklihhdlaaGreat
namespace Abs
open Go Go.Proofs
set_option maxRecDepth 100000
set_option maxHeartbeats 40000000
abbrev qbj(qdy:Val→Option Val):Prop:=∀(p0:Val) (r:Val),qdy p0=some r→ak Tryz.prog 52 [.agg [.int .i64 p0.kind,.int .i64 p0.n,.str p0.name,.slice (List.map ah p0.kids) .shared]] [] (.agg [.int .i64 r.kind,.int .i64 r.n,.str r.name,.slice (List.map ah r.kids) .shared]) []
theorem NM(n:Nat)(qdy:Val→Option Val)(qb3:qbj qdy)(p0:Val)(r:Val)(h:sD n qdy p0=some r):ak Tryz.prog 52 [.agg [.int .i64 p0.kind,.int .i64 p0.n,.str p0.name,.slice (List.map ah p0.kids) .shared]] [] (.agg [.int .i64 r.kind,.int .i64 r.n,.str r.name,.slice (List.map ah r.kids) .shared]) []:=by
 unfold sD at h;refine aA true Tryz.func52 rfl (by rw[Tryz.ntmps52];exact qAa rfl) fun Q hQ t ht=>?_
 conv at ht=>whnf
 subst ht;refine .q fun K1 k1=>?_;refine rg 2 ?_
 conv=>whnf
 refine k1 _ _ ?_;refine .q fun K2 k2=>?_;refine rg 1 ?_
 conv=>whnf
 obtain⟨x1,hx1,h⟩:=ob h;refine dP [] [2] [.slice (List.map ah p0.kids) .shared] [.slice (List.map ah p0.kids) .shared] (BF _ _ _ hx1) an4 rfl .nil (by simp;try decide) (.cons (.same _) .nil) (rn:=.psl 2 4 (List.length p0.kids)) (by simp;try decide) (Hn:=[.arr 4 (List.map ah p0.kids)]) ((fC (congrArg (AObj.arr _) (aH _ _)) rfl)) ?_
 conv=>whnf
 obtain⟨x2,hx2,h⟩:=ob h;refine dP [2] [] [.psl 0 4 (List.length p0.kids)] [.psl 2 4 (List.length p0.kids)] (wX _ _ _ hx2) aiM rfl (.cons (congrArg (AObj.arr _) (aH _ _)) .nil) (by simp;try decide) (.cons (.same _) .nil) (rn:=.psl 2 4 (List.length p0.kids)) (by simp;try decide) (Hn:=[.arr 4 (List.map ah p0.kids)]) ((fC (congrArg (AObj.arr _) (aH _ _)) rfl)) ?_
 conv=>whnf
 refine k2 _ _ ?_;refine .q fun K3 k3=>?_;refine .q fun K4 k4=>?_;refine rg 0 ?_
 conv=>whnf
 refine k4 _ _ ?_;refine .block ?_;obtain⟨o1,ho1,h⟩:=ob h;have hR1:∀s2:List Val,o1=.nx s2→∀t9 h9,Le 0 t9 h9 (.unk::(.ptr 0 0::(.ptr 1 0::(u16 (u4 (u2 (.unk::[]))))))) [.box [.int .i64 p0.kind,.int .i64 p0.n,.str p0.name,.psl 2 4 (List.length s2)],.box [.int .i64 0,.int .i64 0,.str ([]:Str),.psl 3 4 (List.length ([]:List Val))],.arr 4 (List.map ah s2),.arr 4 (List.map ah ([]:List Val))]→K3 t9 h9:=by
  intro s2 ho;subst ho;dsimp only[LR.el]at h;intro t9 h9 hw;refine k3 _ _ (AW.le hw ?_);refine .q fun K5 k5=>?_;refine rg 0 ?_
  conv=>whnf
  refine k5 _ _ ?_;refine .le (t':=(.unk::(.ptr 0 0::(.ptr 1 0::(u16 (u4 (u2 (.agg [.int .i64 p0.kind,.int .i64 p0.n,.str p0.name,.slice (List.map ah s2) .shared]::[])))))))) (h':=[.box [.int .i64 p0.kind,.int .i64 p0.n,.str p0.name,.slice (List.map ah s2) .shared],.box [.int .i64 p0.kind,.int .i64 p0.n,.str p0.name,.slice (List.map ah s2) .shared],.arr 4 (List.map ah ([]:List Val))]) (wk [some 0,some 1,some 3] (.u (.c rfl (.c rfl (.u16 (.u4 (.u2 (.cons (.agg' (.c rfl (.c rfl (.c rfl (.cons (.LZ aH (gK _) rfl rfl) .nil))))) .nil))))))) (.b rfl (.c rfl (.c rfl (.c rfl (.cons (.LZ aH (gK _) rfl rfl) .nil)))) (.b rfl (.c rfl (.c rfl (.c rfl (.cons (.LZ aH (gK _) rfl rfl) .nil)))) (.old (.arr' aH (gK _)) .nil))) rfl) ?_;refine .ret ?_
  conv=>whnf
  have e9:=sj h;subst e9;refine hQ _ _ _ (aF aL (fun g=>by simp) ?_)
  conv=>whnf
  try rfl
 refine .loopS (pF n qdy p0) (fun(s1:(List Val)×Int)=>(.unk::(.ptr 0 0::(.ptr 1 0::(u8 (.psl 2 4 (List.length s1.1)::(.int .i64 (p0.kids.length:Int)::(.int .i64 s1.2::(u8 (u4 [])))))))))) (fun(s1:(List Val)×Int)=>[.box [.int .i64 p0.kind,.int .i64 p0.n,.str p0.name,.psl 2 4 (List.length s1.1)],.box [.int .i64 0,.int .i64 0,.str ([]:Str),.psl 3 4 (List.length ([]:List Val))],.arr 4 (List.map ah s1.1),.arr 4 (List.map ah ([]:List Val))]) ho1 (fun _=>rfl) (wk [some 0,some 1,some 2,none] (.u (.c rfl (.c rfl (.u8 (.c rfl (.c rfl (.c rfl (.u8 (.u4 .nil))))))))) (.b rfl (.c rfl (.c rfl (.c rfl (.c rfl .nil)))) (.b rfl (.c rfl (.c rfl (.c rfl (.cons (.nilP _ _) .nil)))) (.old (.arr' aH (gK _)) (.w rfl .nil)))) rfl) ?_;intro n1 s1 hs1 KL1 hKL1;unfold pF at hs1;refine .q fun K6 k6=>?_;refine rg 0 ?_
 conv=>whnf
 refine k6 _ _ ?_;refine .q fun K7 k7=>?_;refine .aK rfl hs1 (fun hc1 hs1=>?_) (fun hc1 hs1=>?_)
 ·refine .skip ?_
  conv=>whnf
  refine k7 _ _ ?_;refine .q fun K8 k8=>?_;refine .block ?_;refine .q fun K9 k9=>?_;refine rg 1 ?_
  conv=>whnf
  obtain⟨x3,hx3,hs1⟩:=ob hs1;refine ixp (l:=s1.1) (l0:=s1.1) hx3 (by simp[upd]) ?_
  conv=>whnf
  refine ldp (l:=s1.1) (f:=ah) (cs:=[.int .i64 x3.kind,.int .i64 x3.n,.str x3.name,.slice (List.map ah x3.kids) .shared]) hx3 (aS x3) (by decide) ?_
  conv=>whnf
  refine k9 _ _ ?_;refine rg 0 ?_
  conv=>whnf
  obtain⟨x4,hx4,hs1⟩:=ob hs1;refine au (qb3 _ _ hx4) acB (.cons (.same _) .nil) (fun g=>by simp) (fun g=>by simp) ?_
  conv=>whnf
  obtain⟨x5,hx5,hs1⟩:=ob hs1;refine ixp (l:=s1.1) (l0:=s1.1) hx5 (by simp[upd]) ?_
  conv=>whnf
  refine stp (l:=s1.1) (f:=ah) (v:=x4) hx5 ((aS _).symm) (by decide) ?_
  conv=>whnf
  refine⟨by kernel_rfl,?_⟩
  conv=>whnf
  refine k8 _ _ ?_;refine .know 3 0 fun hv1=>?_;refine .know 12 0 fun hv2=>?_;refine rg 0 ?_
  conv=>whnf
  refine⟨(s1.2+1),by have:=fP hv1;have:=fP hv2;have h8:=of_decide_eq_true hc1;exact bT (by omega) (by omega),?_⟩
  conv=>whnf
  exact hKL1 _ _ _ hs1 (wk [some 0,some 1,some 2,some 3] (.u (.c rfl (.c rfl (.u8 (.cons (.same (ahP (by simp[upd]) rfl)) (.c rfl (.c rfl (.u8 (.u4 .nil))))))))) (.b rfl (.c rfl (.c rfl (.c rfl (.cons (.same (ahP (by simp[upd]) rfl)) .nil)))) (.b rfl (.c rfl (.c rfl (.c rfl (.c rfl .nil)))) (.old (.arr' aH (gK _)) (.old (.arr' aH (gK _)) .nil)))) rfl)
 refine .exit ?_
 conv=>whnf
 exact hR1 _ (sj hs1).symm _ _ (wk [some 0,some 1,some 2,some 3] (.u (.c rfl (.c rfl (.u16 (.u4 (.u2 (.u .nil))))))) (.b rfl (.c rfl (.c rfl (.c rfl (.c rfl .nil)))) (.b rfl (.c rfl (.c rfl (.c rfl (.c rfl .nil)))) (.old (.arr' aH (gK _)) (.old (.arr' aH (gK _)) .nil)))) rfl)
theorem WJ(n:Nat):qbj (dV n):=by
 induction n with
 |zero=>exact(fun p0 r h=>by unfold dV at h;cases h)
 |succ n ih=>
  exact(fun p0 r h=>NM n _ ih p0 r (by unfold dV at h;exact h))
theorem KA(n:Nat):qbj (dV n):=(WJ n)
abbrev qbb(qdq:Val→Val→Option Bool):Prop:=∀(p0:Val) (p1:Val) (r:Bool),qdq p0 p1=some r→ak Tryz.prog 21 [.agg [.int .i64 p0.kind,.int .i64 p0.n,.str p0.name,.slice (List.map ah p0.kids) .shared],.agg [.int .i64 p1.kind,.int .i64 p1.n,.str p1.name,.slice (List.map ah p1.kids) .shared]] [] (.bool r) []
abbrev qbc(qdr:(List Val)→(List Val)→Option Bool):Prop:=∀(p0:List Val) (p1:List Val) (r:Bool),qdr p0 p1=some r→ak Tryz.prog 36 [.slice (List.map ah p0) .shared,.slice (List.map ah p1) .shared] [] (.bool r) []
theorem Ml(n:Nat)(qdq:Val→Val→Option Bool)(qdr:(List Val)→(List Val)→Option Bool)(qbu:qbb qdq)(qbw:qbc qdr)(p0:Val)(p1:Val)(r:Bool)(h:qR n qdq qdr p0 p1=some r):ak Tryz.prog 21 [.agg [.int .i64 p0.kind,.int .i64 p0.n,.str p0.name,.slice (List.map ah p0.kids) .shared],.agg [.int .i64 p1.kind,.int .i64 p1.n,.str p1.name,.slice (List.map ah p1.kids) .shared]] [] (.bool r) []:=by
 unfold qR at h;refine aA true Tryz.func21 rfl (by rw[Tryz.ntmps21];exact qAa rfl) fun Q hQ t ht=>?_
 conv at ht=>whnf
 subst ht;refine .q fun K1 k1=>?_;refine rg 2 ?_
 conv=>whnf
 refine k1 _ _ ?_;refine .q fun K2 k2=>?_;obtain⟨s1,hj1,h⟩:=ob h;have hR1:∀t9 h9,Le 0 t9 h9 (u4 (.bool s1::(u16 (u8 (u2 []))))) []→K2 t9 h9:=by
  intro t9 h9 hw;refine k2 _ _ (AW.le hw ?_);clear hw;refine .ret ?_
  conv=>whnf
  have e9:=sj h;subst e9;refine hQ _ _ _ (aF aL (fun g=>rfl) ?_)
  conv=>whnf
 refine rg 0 ?_
 conv=>whnf
 refine aD hj1 (fun hc1 hj1=>?_) (fun hc1 hj1=>?_)
 ·conv=>whnf
  refine aD hj1 (fun hc2 hj1=>?_) (fun hc2 hj1=>?_)
  ·conv=>whnf
   refine aD hj1 (fun hc3 hj1=>?_) (fun hc3 hj1=>?_)
   ·conv=>whnf
    obtain⟨x1,hx1,hj1⟩:=ob hj1;refine au (qbw _ _ _ hx1) aiZ (.cons (.same _) (.cons (.same _) .nil)) (fun g=>by simp) (fun g=>rfl) ?_
    conv=>whnf
    cases hj1;exact hR1 _ _ (wk [] (.u4 (.c rfl (.u16 (.u8 (.u2 .nil))))) .nil rfl)
   conv=>whnf
   cases hj1;exact hR1 _ _ (wk [] (.u4 (.c rfl (.u16 (.u8 (.u2 .nil))))) .nil rfl)
  conv=>whnf
  cases hj1;exact hR1 _ _ (wk [] (.u4 (.c rfl (.u16 (.u8 (.u2 .nil))))) .nil rfl)
 conv=>whnf
 cases hj1;exact hR1 _ _ (wk [] (.u4 (.c rfl (.u16 (.u8 (.u2 .nil))))) .nil rfl)
theorem La(n:Nat)(qdq:Val→Val→Option Bool)(qdr:(List Val)→(List Val)→Option Bool)(qbu:qbb qdq)(qbw:qbc qdr)(p0:List Val)(p1:List Val)(r:Bool)(h:ql n qdq qdr p0 p1=some r):ak Tryz.prog 36 [.slice (List.map ah p0) .shared,.slice (List.map ah p1) .shared] [] (.bool r) []:=by
 unfold ql at h;refine aA true Tryz.func36 rfl (by rw[Tryz.ntmps36];exact qAa rfl) fun Q hQ t ht=>?_
 conv at ht=>whnf
 subst ht;refine .q fun K1 k1=>?_;refine rg 0 ?_
 conv=>whnf
 refine k1 _ _ ?_;refine .q fun K2 k2=>?_;refine .q fun K3 k3=>?_;refine rg 0 ?_
 conv=>whnf
 refine aY (l:=p0) (f:=ah) ?_
 conv=>whnf
 refine aY (l:=p1) (f:=ah) ?_
 conv=>whnf
 refine k3 _ _ ?_;refine .aK rfl h (fun hc1 h=>?_) (fun hc1 h=>?_)
 ·refine .q fun K4 k4=>?_;refine rg 0 ?_
  conv=>whnf
  refine k4 _ _ ?_;refine .ret ?_
  conv=>whnf
  have e9:=sj h;subst e9;refine hQ _ _ _ (aF aL (fun g=>rfl) ?_)
  conv=>whnf
 refine .skip ?_
 conv=>whnf
 refine k2 _ _ ?_;refine .q fun K5 k5=>?_;refine .q fun K6 k6=>?_;refine rg 0 ?_
 conv=>whnf
 refine k6 _ _ ?_;refine .block ?_;obtain⟨o1,ho1,h⟩:=ob h;have hR1:∀s2:Unit,o1=.nx s2→∀t9 h9,Le 0 t9 h9 (u16 (u8 (u2 (.unk::[])))) []→K5 t9 h9:=by
  intro s2 ho;subst ho;dsimp only[LR.el]at h;intro t9 h9 hw;refine k5 _ _ (AW.le hw ?_);refine .q fun K7 k7=>?_;refine rg 0 ?_
  conv=>whnf
  refine k7 _ _ ?_;refine .ret ?_
  conv=>whnf
  have e9:=sj h;subst e9;refine hQ _ _ _ (aF aL (fun g=>rfl) ?_)
  conv=>whnf
 refine .loopS (nk n qdq qdr p0 p1) (fun(s1:Int)=>(.slice (List.map ah p0) .shared::(.slice (List.map ah p1) .shared::(u2 (.unk::(.int .i64 s1::(u16 (u4 (.unk::[]))))))))) (fun(s1:Int)=>[]) ho1 (fun _=>rfl) (li (.s (.s (.u2 (.u (.s (.u16 (.u4 (.u .n))))))))) ?_;intro n1 s1 hs1 KL1 hKL1;unfold nk at hs1;refine .q fun K8 k8=>?_;refine .q fun K9 k9=>?_;refine rg 0 ?_
 conv=>whnf
 refine aY (l:=p0) (f:=ah) ?_
 conv=>whnf
 refine k9 _ _ ?_;refine .aK rfl hs1 (fun hc2 hs1=>?_) (fun hc2 hs1=>?_)
 ·refine .skip ?_
  conv=>whnf
  refine k8 _ _ ?_;refine .q fun K10 k10=>?_;refine .block ?_;refine .q fun K11 k11=>?_;refine rg 0 ?_
  conv=>whnf
  obtain⟨x1,hx1,hs1⟩:=ob hs1;refine bf (l:=p0) (f:=ah) (cs:=[.int .i64 ((x1).kind),.int .i64 ((x1).n),.str ((x1).name),.slice (List.map ah ((x1).kids)) .shared]) hx1 (aS x1) rfl ?_
  conv=>whnf
  obtain⟨x2,hx2,hs1⟩:=ob hs1;refine bf (l:=p1) (f:=ah) (cs:=[.int .i64 ((x2).kind),.int .i64 ((x2).n),.str ((x2).name),.slice (List.map ah ((x2).kids)) .shared]) hx2 (aS x2) rfl ?_
  conv=>whnf
  obtain⟨x3,hx3,hs1⟩:=ob hs1;refine au (qbu _ _ _ hx3) V5 (.cons (.same _) (.cons (.same _) .nil)) (fun g=>by simp) (fun g=>rfl) ?_
  conv=>whnf
  refine⟨by kernel_rfl,?_⟩
  conv=>whnf
  refine k11 _ _ ?_;refine .aK rfl hs1 (fun hc3 hs1=>?_) (fun hc3 hs1=>?_)
  ·refine .q fun K12 k12=>?_;refine rg 0 ?_
   conv=>whnf
   refine k12 _ _ ?_;refine .ret ?_
   conv=>whnf
   have e9:=sj hs1;subst e9;dsimp only[LR.el]at h;have e9:=sj h;subst e9;refine hQ _ _ _ (aF aL (fun g=>rfl) ?_)
   conv=>whnf
  refine .skip ?_
  conv=>whnf
  refine k10 _ _ ?_;refine .know 5 0 fun hv1=>?_;refine .know 0 0 fun hv2=>?_;refine rg 0 ?_
  conv=>whnf
  refine⟨(s1+1),by have:=fP hv1;have:=mO hv2;have h8:=of_decide_eq_true hc2;exact bT (by omega) (by omega),?_⟩
  conv=>whnf
  exact hKL1 _ _ _ hs1 (li (.s (.s (.u2 (.u (.s (.u16 (.u4 (.u .n)))))))))
 refine .exit ?_
 conv=>whnf
 exact hR1 _ (sj hs1).symm _ _ (li (.u16 (.u8 (.u2 (.u .n)))))
theorem IV(n:Nat):qbb (fM n)∧qbc (jw n):=by
 induction n with
 |zero=>exact⟨(fun p0 p1 r h=>by unfold fM at h;cases h),(fun p0 p1 r h=>by unfold jw at h;cases h)⟩
 |succ n ih=>
  exact⟨(fun p0 p1 r h=>Ml n _ _ ih.1 ih.2 p0 p1 r (by unfold fM at h;exact h)),(fun p0 p1 r h=>La n _ _ ih.1 ih.2 p0 p1 r (by unfold jw at h;exact h))⟩
theorem Tx(n:Nat):qbc (jw n):=(IV n).2
end Abs
end Go.Proofs.YtkopaeklihhdlaaGreat

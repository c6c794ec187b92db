/-
  Contracts of Go functions (printed). Conditions: none.
-/
import Derived.KernelRfl
import Derived.Test.YtkopaeklihhdlaaGreatCE3ox09b2ff
set_option linter.all false
namespace Go.Proofs.YtkopaeklihhdlaaGreat
namespace Abs
section
open Go Go.Proofs
set_option maxRecDepth 100000
set_option maxHeartbeats 40000000
theorem e6x0{p q:Prop}(f:p→q)(h:p:=by exact wk [] (.u (.e bP (.u8 (.u4 (.e aJ (.c rfl (.c rfl (.u16 (.u8 (.u4 (.u2 (.u (.c rfl (.u .nil)))))))))))))) .nil rfl):q:=f h
theorem Bc(n:Nat)(p0:Env)(p1:List Int)(r:Bool)(h:qC n p0 p1=some r):ak Tryz.prog 43 [.agg [.slice (List.map aj p0.carriers) .shared,.slice (List.map aB p0.names) .shared],.slice (List.map encI p1) .shared] [] (.bool r) []:=by
 unfold qC at h;refine aA true Tryz.func43 rfl (by rw[Tryz.ntmps43];exact qAa rfl) fun Q hQ t ht=>?_
 conv at ht=>whnf
 subst ht;refine .q fun K1 k1=>?_;refine rg 1 ?_
 conv=>whnf
 refine k1 _ _ ?_;refine .q fun K2 k2=>?_;refine .q fun K3 k3=>?_;refine rg 0 ?_
 conv=>whnf
 refine aY (l:=p1) (f:=encI) ?_
 conv=>whnf
 refine aY (l:=p0.carriers) (f:=aj) ?_
 conv=>whnf
 refine k3 _ _ ?_;refine .aK rfl h (fun hc1 h=>?_) (fun hc1 h=>?_)
 ·refine .q fun K4 k4=>?_;refine rg 0 ?_
  conv=>whnf
  refine k4 _ _ ?_;refine .ret ?_
  conv=>whnf
  have e9:=sj h;subst e9;refine hQ _ _ _ (aF aL (fun g=>rfl) ?_)
  conv=>whnf
 refine .skip ?_
 conv=>whnf
 refine k2 _ _ ?_;refine .q fun K5 k5=>?_;refine .q fun K6 k6=>?_;refine rg 0 ?_
 conv=>whnf
 refine aY (l:=p0.carriers) (f:=aj) ?_
 conv=>whnf
 refine k6 _ _ ?_;refine .block ?_;obtain⟨o1,ho1,h⟩:=ob h;have hR1:∀s2:Unit,o1=.nx s2→∀t9 h9,Le 0 t9 h9 (u32 (u16 (u2 []))) []→K5 t9 h9:=by
  intro s2 ho;subst ho;dsimp only[LR.el]at h;intro t9 h9 hw;refine k5 _ _ (AW.le hw ?_);refine .q fun K7 k7=>?_;refine rg 0 ?_
  conv=>whnf
  refine k7 _ _ ?_;refine .ret ?_
  conv=>whnf
  have e9:=sj h;subst e9;refine hQ _ _ _ (aF aL (fun g=>rfl) ?_)
  conv=>whnf
 refine .loopS (nC n p0 p1) (fun(s1:Int)=>(.unk::(.slice (List.map encI p1) .shared::(u8 (u4 (.slice (List.map aj p0.carriers) .shared::(.int .i64 (p0.carriers.length:Int)::(.int .i64 s1::(u32 (.unk::[])))))))))) (fun(s1:Int)=>[]) ho1 (fun _=>rfl) (wk [] (.u (.e bP (.u8 (.u4 (.e aJ (.c rfl (.c rfl (.u32 (.u .nil))))))))) .nil rfl) ?_;intro n1 s1 hs1 KL1 hKL1;unfold nC at hs1;refine .q fun K8 k8=>?_;refine rg 0 ?_
 conv=>whnf
 refine k8 _ _ ?_;refine .q fun K9 k9=>?_;refine .aK rfl hs1 (fun hc2 hs1=>?_) (fun hc2 hs1=>?_)
 ·refine .skip ?_
  conv=>whnf
  refine k9 _ _ ?_;refine .q fun K10 k10=>?_;refine .block ?_;refine .q fun K11 k11=>?_;refine rg 1 ?_
  conv=>whnf
  obtain⟨x1,hx1,hs1⟩:=ob hs1;refine bf (l:=p0.carriers) (f:=aj) (cs:=[.str ((x1).name),.slice (List.map encS ((x1).elems)) .shared]) hx1 (rfl) rfl ?_
  conv=>whnf
  refine k11 _ _ ?_;refine .q fun K12 k12=>?_;obtain⟨s3,hj1,hs1⟩:=ob hs1;have hR2:∀t9 h9,Le 0 t9 h9 (.unk::(.slice (List.map encI p1) .shared::(u8 (u4 (.slice (List.map aj p0.carriers) .shared::(.int .i64 (p0.carriers.length:Int)::(.int .i64 s1::(u16 (u8 (u4 (u2 (.unk::(.bool s3::(.unk::[])))))))))))))) []→K12 t9 h9:=by
   intro t9 h9 hw;refine k12 _ _ (AW.le hw ?_);clear hw;refine .aK rfl hs1 (fun hc3 hs1=>?_) (fun hc3 hs1=>?_)
   ·refine .q fun K13 k13=>?_;refine rg 0 ?_
    conv=>whnf
    refine k13 _ _ ?_;refine .ret ?_
    conv=>whnf
    have e9:=sj hs1;subst e9;dsimp only[LR.el]at h;have e9:=sj h;subst e9;refine hQ _ _ _ (aF aL (fun g=>rfl) ?_)
    conv=>whnf
   refine .skip ?_
   conv=>whnf
   refine k10 _ _ ?_;refine .know 16 0 fun hv1=>?_;refine .know 14 0 fun hv2=>?_;refine rg 0 ?_
   conv=>whnf
   refine⟨(s1+1),by have:=fP hv1;have:=mO hv2;have h8:=of_decide_eq_true hc2;exact bT (by omega) (by omega),?_⟩
   conv=>whnf
   exact hKL1 _ _ _ hs1 (li (.u (.s (.u8 (.u4 (.s (.s (.s (.u16 (.u16 (.u .n)))))))))))
  refine rg 0 ?_
  conv=>whnf
  obtain⟨x2,hx2,hj1⟩:=ob hj1;refine bf (l:=p1) (f:=encI) (cs:=[.int .i64 (x2)]) hx2 (rfl) rfl ?_
  conv=>whnf
  refine aD hj1 (fun hc4 hj1=>?_) (fun hc4 hj1=>?_)
  ·conv=>whnf
   refine⟨by kernel_rfl,?_⟩
   conv=>whnf
   cases hj1;exact e6x0 (hR2 _ _)
  conv=>whnf
  obtain⟨x3,hx3,hj1⟩:=ob hj1;refine bf (l:=p1) (f:=encI) (cs:=[.int .i64 (x3)]) hx3 (rfl) rfl ?_
  conv=>whnf
  refine aD hj1 (fun hc5 hj1=>?_) (fun hc5 hj1=>?_)
  ·conv=>whnf
   refine⟨by kernel_rfl,?_⟩
   conv=>whnf
   cases hj1;exact e6x0 (hR2 _ _)
  conv=>whnf
  refine aY (l:=x1.elems) (f:=encS) ?_
  conv=>whnf
  refine aD hj1 (fun hc6 hj1=>?_) (fun hc6 hj1=>?_)
  ·conv=>whnf
   obtain⟨x4,hx4,hj1⟩:=ob hj1;refine bf (l:=p1) (f:=encI) (cs:=[.int .i64 (x4)]) hx4 (rfl) rfl ?_
   conv=>whnf
   refine aY (l:=x1.elems) (f:=encS) ?_
   conv=>whnf
   refine⟨by kernel_rfl,?_⟩
   conv=>whnf
   cases hj1;exact e6x0 (hR2 _ _)
  conv=>whnf
  refine⟨by kernel_rfl,?_⟩
  conv=>whnf
  cases hj1;exact e6x0 (hR2 _ _)
 refine .exit ?_
 conv=>whnf
 exact hR1 _ (sj hs1).symm _ _ (li (.u16 (.u16 (.u16 (.u2 .n)))))
theorem VG(n:Nat)(p0:Carrier)(p1:Str)(r:Bool)(h:Oc n p0 p1=some r):ak Tryz.prog 120 [.agg [.str p0.name,.slice (List.map encS p0.elems) .shared],.ptr 0 0] [.box [.str p1]] (.bool r) [.box [.str p1]]:=by
 unfold Oc at h;refine aA true Tryz.func120 rfl (by rw[Tryz.ntmps120];exact qAa rfl) fun Q hQ t ht=>?_
 conv at ht=>whnf
 subst ht;refine .q fun K1 k1=>?_;refine rg 1 ?_
 conv=>whnf
 refine k1 _ _ ?_;refine .q fun K2 k2=>?_;refine rg 0 ?_
 conv=>whnf
 refine k2 _ _ ?_;refine .ret ?_
 conv=>whnf
 have e9:=sj h;subst e9;refine hQ _ _ _ (jf (u2 (.unk::(.bool (p0.name==p1)::(u4 [])))) [.box [.str p1]] (wk [some 0] (.u2 (.u (.c rfl (.u4 .nil)))) (.b rfl (.c rfl .nil) .nil) rfl) (dI aL [0] rfl (.cons (rfl) .nil) ?_))
 conv=>whnf
 first|rfl|(simp;done)|(simp;rfl)|(simp;and_intros<;>rfl)
theorem Co(n:Nat)(p0:List Carrier)(p1:Str)(r:Int)(h:iF n p0 p1=some r):ak Tryz.prog 119 [.slice (List.map aj p0) .shared,.func 120 [.ptr 0 0]] [.box [.str p1]] (.int .i64 r) [.box [.str p1]]:=by
 unfold iF at h;refine aA true Tryz.func119 rfl (by rw[Tryz.ntmps119];exact qAa rfl) fun Q hQ t ht=>?_
 conv at ht=>whnf
 subst ht;refine .q fun K1 k1=>?_;refine rg 0 ?_
 conv=>whnf
 refine k1 _ _ ?_;refine .q fun K2 k2=>?_;refine .q fun K3 k3=>?_;refine rg 0 ?_
 conv=>whnf
 refine aY (l:=p0) (f:=aj) ?_
 conv=>whnf
 refine k3 _ _ ?_;refine .block ?_;obtain⟨o1,ho1,h⟩:=ob h;have hR1:∀s2:Unit,o1=.nx s2→∀t9 h9,Le 1 t9 h9 (u16 (u2 (.unk::[]))) [.box [.str p1]]→K2 t9 h9:=by
  intro s2 ho;subst ho;dsimp only[LR.el]at h;intro t9 h9 hw;refine k2 _ _ (AW.le hw ?_);refine .q fun K4 k4=>?_;refine rg 0 ?_
  conv=>whnf
  refine k4 _ _ ?_;refine .ret ?_
  conv=>whnf
  have e9:=sj h;subst e9;refine hQ _ _ _ (jf (u4 (.int .i64 (-1)::(u8 (u4 (u2 []))))) [.box [.str p1]] (wk [some 0] (.u4 (.c rfl (.u8 (.u4 (.u2 .nil))))) (.b rfl (.c rfl .nil) .nil) rfl) (dI aL [0] rfl (.cons (rfl) .nil) ?_))
  conv=>whnf
  first|rfl|(simp;done)|(simp;rfl)|(simp;and_intros<;>rfl)
 refine .loopS (fq n p0 p1) (fun(s1:Int)=>(.slice (List.map aj p0) .shared::(.func 120 [.ptr 0 0]::(u4 (.unk::(.int .i64 (p0.length:Int)::(.int .i64 s1::(u8 (u2 []))))))))) (fun(s1:Int)=>[.box [.str p1]]) ho1 (fun _=>rfl) (li (.s (.s (.u4 (.u (.s (.s (.u8 (.u2 .n))))))))) ?_;intro n1 s1 hs1 KL1 hKL1;unfold fq at hs1;refine .q fun K5 k5=>?_;refine rg 0 ?_
 conv=>whnf
 refine k5 _ _ ?_;refine .q fun K6 k6=>?_;refine .aK rfl hs1 (fun hc1 hs1=>?_) (fun hc1 hs1=>?_)
 ·refine .skip ?_
  conv=>whnf
  refine k6 _ _ ?_;refine .q fun K7 k7=>?_;refine .block ?_;refine .q fun K8 k8=>?_;refine rg 0 ?_
  conv=>whnf
  refine k8 _ _ ?_;refine .q fun K9 k9=>?_;refine rg 0 ?_
  conv=>whnf
  obtain⟨x1,hx1,hs1⟩:=ob hs1;refine bf (l:=p0) (f:=aj) (cs:=[.str ((x1).name),.slice (List.map encS ((x1).elems)) .shared]) hx1 (rfl) rfl ?_
  conv=>whnf
  refine dP [0] [] [.agg [.str x1.name,.slice (List.map encS x1.elems) .shared],.ptr 0 0] [.agg [.str x1.name,.slice (List.map encS x1.elems) .shared],.ptr 0 0] (VG 0 x1 p1 _ rfl) anV rfl (.cons (rfl) .nil) (by simp;try decide) (.cons (.same _) (.cons (.same _) .nil)) (rn:=.bool (x1.name==p1)) (rfl) (Hn:=[.box [.str p1]]) ((fC (rfl) rfl)) ?_
  conv=>whnf
  refine k9 _ _ ?_;refine .aK rfl hs1 (fun hc2 hs1=>?_) (fun hc2 hs1=>?_)
  ·refine .q fun K10 k10=>?_;refine rg 0 ?_
   conv=>whnf
   refine k10 _ _ ?_;refine .ret ?_
   conv=>whnf
   have e9:=sj hs1;subst e9;dsimp only[LR.el]at h;have e9:=sj h;subst e9;refine hQ _ _ _ (jf (u4 (.int .i64 s1::(u8 (u4 (u2 []))))) [.box [.str p1]] (wk [some 0] (.u4 (.c rfl (.u8 (.u4 (.u2 .nil))))) (.b rfl (.c rfl .nil) .nil) rfl) (dI aL [0] rfl (.cons (rfl) .nil) ?_))
   conv=>whnf
   first|rfl|(simp;done)|(simp;rfl)|(simp;and_intros<;>rfl)
  refine .skip ?_
  conv=>whnf
  refine k7 _ _ ?_;refine .know 5 0 fun hv1=>?_;refine .know 0 0 fun hv2=>?_;refine rg 0 ?_
  conv=>whnf
  refine⟨(s1+1),by have:=fP hv1;have:=mO hv2;have h8:=of_decide_eq_true hc1;exact bT (by omega) (by omega),?_⟩
  conv=>whnf
  exact hKL1 _ _ _ hs1 (li (.s (.s (.u4 (.u (.s (.s (.u8 (.u2 .n)))))))))
 refine .exit ?_
 conv=>whnf
 exact hR1 _ (sj hs1).symm _ _ (li (.u16 (.u2 (.u .n))))
theorem Ar(n:Nat)(p0:Env)(p1:Str)(r:Int)(h:lU n p0 p1=some r):ak Tryz.prog 67 [.agg [.slice (List.map aj p0.carriers) .shared,.slice (List.map aB p0.names) .shared],.str p1] [] (.int .i64 r) []:=by
 unfold lU at h;refine aA true Tryz.func67 rfl (by rw[Tryz.ntmps67];exact qAa rfl) fun Q hQ t ht=>?_
 conv at ht=>whnf
 subst ht;refine .q fun K1 k1=>?_;refine rg 2 ?_
 conv=>whnf
 refine k1 _ _ ?_;refine .q fun K2 k2=>?_;refine rg 0 ?_
 conv=>whnf
 obtain⟨x1,hx1,h⟩:=ob h;refine dP [1] [] [.slice (List.map aj p0.carriers) .shared,.func 120 [.ptr 0 0]] [.slice (List.map aj p0.carriers) .shared,.func 120 [.ptr 1 0]] (Co _ _ _ _ hx1) af7 rfl (.cons (rfl) .nil) (by simp;try decide) (.cons (.same _) (.cons (.same _) .nil)) (rn:=.int .i64 x1) (rfl) (Hn:=[.box [.str p1]]) ((fC (rfl) rfl)) ?_
 conv=>whnf
 refine k2 _ _ ?_;refine .ret ?_
 conv=>whnf
 have e9:=sj h;subst e9;refine hQ _ _ _ (aF aL (fun g=>rfl) ?_)
 conv=>whnf
theorem WT(n:Nat)(p0:Str)(p1:List Carrier)(p2:List Decl)(r:Bool)(h:zw n p0 p1 p2=some r):ak Tryz.prog 96 [.str p0,.ptr 0 0] [.box [.slice (List.map aj p1) .shared,.slice (List.map aB p2) .shared]] (.bool r) [.box [.slice (List.map aj p1) .shared,.slice (List.map aB p2) .shared]]:=by
 unfold zw at h;refine aA true Tryz.func96 rfl (by rw[Tryz.ntmps96];exact qAa rfl) fun Q hQ t ht=>?_
 conv at ht=>whnf
 subst ht;refine .q fun K1 k1=>?_;refine rg 0 ?_
 conv=>whnf
 refine k1 _ _ ?_;refine .q fun K2 k2=>?_;refine rg 0 ?_
 conv=>whnf
 obtain⟨x1,hx1,h⟩:=ob h;refine au (Ar _ _ _ _ hx1) abT (.cons (.same _) (.cons (.same _) .nil)) (fun g=>by simp) (fun g=>rfl) ?_
 conv=>whnf
 refine k2 _ _ ?_;refine .ret ?_
 conv=>whnf
 have e9:=sj h;subst e9;refine hQ _ _ _ (jf (u2 (.unk::(.bool (decide (x1<0))::(u4 [])))) [.box [.slice (List.map aj p1) .shared,.slice (List.map aB p2) .shared]] (wk [some 0] (.u2 (.u (.c rfl (.u4 .nil)))) (.b rfl (.e aJ (.e aQ .nil)) .nil) rfl) (dI aL [0] rfl (.cons (by simp only[bN,ren,bD,bA,dK,bY,bP,bS,dF,bK,dB,aJ,aQ,aH,aT,aG,aU];try rfl) .nil) ?_))
 conv=>whnf
 first|rfl|(simp;done)|(simp;rfl)|(simp;and_intros<;>rfl)
theorem Db(n:Nat)(p0:List Str)(p1:List Carrier)(p2:List Decl)(r:Int)(h:iR n p0 p1 p2=some r):ak Tryz.prog 158 [.slice (List.map encS p0) .shared,.func 96 [.ptr 0 0]] [.box [.slice (List.map aj p1) .shared,.slice (List.map aB p2) .shared]] (.int .i64 r) [.box [.slice (List.map aj p1) .shared,.slice (List.map aB p2) .shared]]:=by
 unfold iR at h;refine aA true Tryz.func158 rfl (by rw[Tryz.ntmps158];exact qAa rfl) fun Q hQ t ht=>?_
 conv at ht=>whnf
 subst ht;refine .q fun K1 k1=>?_;refine rg 0 ?_
 conv=>whnf
 refine k1 _ _ ?_;refine .q fun K2 k2=>?_;refine .q fun K3 k3=>?_;refine rg 0 ?_
 conv=>whnf
 refine aY (l:=p0) (f:=encS) ?_
 conv=>whnf
 refine k3 _ _ ?_;refine .block ?_;obtain⟨o1,ho1,h⟩:=ob h;have hR1:∀s2:Unit,o1=.nx s2→∀t9 h9,Le 1 t9 h9 (u16 (u2 (.unk::[]))) [.box [.slice (List.map aj p1) .shared,.slice (List.map aB p2) .shared]]→K2 t9 h9:=by
  intro s2 ho;subst ho;dsimp only[LR.el]at h;intro t9 h9 hw;refine k2 _ _ (AW.le hw ?_);refine .q fun K4 k4=>?_;refine rg 0 ?_
  conv=>whnf
  refine k4 _ _ ?_;refine .ret ?_
  conv=>whnf
  have e9:=sj h;subst e9;refine hQ _ _ _ (jf (u4 (.int .i64 (-1)::(u8 (u4 (u2 []))))) [.box [.slice (List.map aj p1) .shared,.slice (List.map aB p2) .shared]] (wk [some 0] (.u4 (.c rfl (.u8 (.u4 (.u2 .nil))))) (.b rfl (.e aJ (.e aQ .nil)) .nil) rfl) (dI aL [0] rfl (.cons (by simp only[bN,ren,bD,bA,dK,bY,bP,bS,dF,bK,dB,aJ,aQ,aH,aT,aG,aU];try rfl) .nil) ?_))
  conv=>whnf
  first|rfl|(simp;done)|(simp;rfl)|(simp;and_intros<;>rfl)
 refine .loopS (fE n p0 p1 p2) (fun(s1:Int)=>(.slice (List.map encS p0) .shared::(.func 96 [.ptr 0 0]::(u4 (.unk::(.int .i64 (p0.length:Int)::(.int .i64 s1::(u8 (u2 []))))))))) (fun(s1:Int)=>[.box [.slice (List.map aj p1) .shared,.slice (List.map aB p2) .shared]]) ho1 (fun _=>rfl) (li (.s (.s (.u4 (.u (.s (.s (.u8 (.u2 .n))))))))) ?_;intro n1 s1 hs1 KL1 hKL1;unfold fE at hs1;refine .q fun K5 k5=>?_;refine rg 0 ?_
 conv=>whnf
 refine k5 _ _ ?_;refine .q fun K6 k6=>?_;refine .aK rfl hs1 (fun hc1 hs1=>?_) (fun hc1 hs1=>?_)
 ·refine .skip ?_
  conv=>whnf
  refine k6 _ _ ?_;refine .q fun K7 k7=>?_;refine .block ?_;refine .q fun K8 k8=>?_;refine rg 0 ?_
  conv=>whnf
  refine k8 _ _ ?_;refine .q fun K9 k9=>?_;refine rg 0 ?_
  conv=>whnf
  obtain⟨x1,hx1,hs1⟩:=ob hs1;refine bf (l:=p0) (f:=encS) (cs:=[.str (x1)]) hx1 (rfl) rfl ?_
  conv=>whnf
  obtain⟨x2,hx2,hs1⟩:=ob hs1;refine dP [0] [] [.str x1,.ptr 0 0] [.str x1,.ptr 0 0] (WT _ _ _ _ _ hx2) aqL rfl (.cons (by simp only[bN,ren,bD,bA,dK,bY,bP,bS,dF,bK,dB,aJ,aQ,aH,aT,aG,aU];try rfl) .nil) (rfl) (.cons (.same _) (.cons (.same _) .nil)) (rn:=.bool x2) (rfl) (Hn:=[.box [.slice (List.map aj p1) .shared,.slice (List.map aB p2) .shared]]) ((fC (by simp only[bN,ren,bD,bA,dK,bY,bP,bS,dF,bK,dB,aJ,aQ,aH,aT,aG,aU];try rfl) rfl)) ?_
  conv=>whnf
  refine k9 _ _ ?_;refine .aK rfl hs1 (fun hc2 hs1=>?_) (fun hc2 hs1=>?_)
  ·refine .q fun K10 k10=>?_;refine rg 0 ?_
   conv=>whnf
   refine k10 _ _ ?_;refine .ret ?_
   conv=>whnf
   have e9:=sj hs1;subst e9;dsimp only[LR.el]at h;have e9:=sj h;subst e9;refine hQ _ _ _ (jf (u4 (.int .i64 s1::(u8 (u4 (u2 []))))) [.box [.slice (List.map aj p1) .shared,.slice (List.map aB p2) .shared]] (wk [some 0] (.u4 (.c rfl (.u8 (.u4 (.u2 .nil))))) (.b rfl (.e aJ (.e aQ .nil)) .nil) rfl) (dI aL [0] rfl (.cons (by simp only[bN,ren,bD,bA,dK,bY,bP,bS,dF,bK,dB,aJ,aQ,aH,aT,aG,aU];try rfl) .nil) ?_))
   conv=>whnf
   first|rfl|(simp;done)|(simp;rfl)|(simp;and_intros<;>rfl)
  refine .skip ?_
  conv=>whnf
  refine k7 _ _ ?_;refine .know 5 0 fun hv1=>?_;refine .know 0 0 fun hv2=>?_;refine rg 0 ?_
  conv=>whnf
  refine⟨(s1+1),by have:=fP hv1;have:=mO hv2;have h8:=of_decide_eq_true hc1;exact bT (by omega) (by omega),?_⟩
  conv=>whnf
  exact hKL1 _ _ _ hs1 (li (.s (.s (.u4 (.u (.s (.s (.u8 (.u2 .n)))))))))
 refine .exit ?_
 conv=>whnf
 exact hR1 _ (sj hs1).symm _ _ (li (.u16 (.u2 (.u .n))))
theorem AL(n:Nat)(p0:List Str)(p1:List Carrier)(p2:List Decl)(r:Bool)(h:gT n p0 p1 p2=some r):ak Tryz.prog 94 [.slice (List.map encS p0) .shared,.func 96 [.ptr 0 0]] [.box [.slice (List.map aj p1) .shared,.slice (List.map aB p2) .shared]] (.bool r) [.box [.slice (List.map aj p1) .shared,.slice (List.map aB p2) .shared]]:=by
 unfold gT at h;refine aA true Tryz.func94 rfl (by rw[Tryz.ntmps94];exact qAa rfl) fun Q hQ t ht=>?_
 conv at ht=>whnf
 subst ht;refine .q fun K1 k1=>?_;refine rg 0 ?_
 conv=>whnf
 refine k1 _ _ ?_;refine .q fun K2 k2=>?_;refine rg 0 ?_
 conv=>whnf
 obtain⟨x1,hx1,h⟩:=ob h;refine dP [0] [] [.slice (List.map encS p0) .shared,.func 96 [.ptr 0 0]] [.slice (List.map encS p0) .shared,.func 96 [.ptr 0 0]] (Db _ _ _ _ _ hx1) agZ rfl (.cons (by simp only[bN,ren,bD,bA,dK,bY,bP,bS,dF,bK,dB,aJ,aQ,aH,aT,aG,aU];try rfl) .nil) (by simp;try decide) (.cons (.same _) (.cons (.same _) .nil)) (rn:=.int .i64 x1) (rfl) (Hn:=[.box [.slice (List.map aj p1) .shared,.slice (List.map aB p2) .shared]]) ((fC (by simp only[bN,ren,bD,bA,dK,bY,bP,bS,dF,bK,dB,aJ,aQ,aH,aT,aG,aU];try rfl) rfl)) ?_
 conv=>whnf
 refine k2 _ _ ?_;refine .ret ?_
 conv=>whnf
 have e9:=sj h;subst e9;refine hQ _ _ _ (jf (u4 (.bool (decide (0≤x1))::(u4 []))) [.box [.slice (List.map aj p1) .shared,.slice (List.map aB p2) .shared]] (wk [some 0] (.u4 (.c rfl (.u4 .nil))) (.b rfl (.e aJ (.e aQ .nil)) .nil) rfl) (dI aL [0] rfl (.cons (by simp only[bN,ren,bD,bA,dK,bY,bP,bS,dF,bK,dB,aJ,aQ,aH,aT,aG,aU];try rfl) .nil) ?_))
 conv=>whnf
 first|rfl|(simp;done)|(simp;rfl)|(simp;and_intros<;>rfl)
theorem F6(n:Nat)(p0:Env)(p1:Ty)(r:Bool)(h:uM n p0 p1=some r):ak Tryz.prog 44 [.agg [.slice (List.map aj p0.carriers) .shared,.slice (List.map aB p0.names) .shared],.agg [.int .i64 p1.kind,.str p1.name,.slice (List.map aC p1.kids) .shared]] [] (.bool r) []:=by
 unfold uM at h;refine aA true Tryz.func44 rfl (by rw[Tryz.ntmps44];exact qAa rfl) fun Q hQ t ht=>?_
 conv at ht=>whnf
 subst ht;refine .q fun K1 k1=>?_;refine rg 2 ?_
 conv=>whnf
 refine k1 _ _ ?_;refine .q fun K2 k2=>?_;obtain⟨s1,hj1,h⟩:=ob h;have hR1:∀t9 h9,Le 0 t9 h9 (u4 (.bool s1::(u8 (.unk::[])))) []→K2 t9 h9:=by
  intro t9 h9 hw;refine k2 _ _ (AW.le hw ?_);clear hw;refine .ret ?_
  conv=>whnf
  have e9:=sj h;subst e9;refine hQ _ _ _ (aF aL (fun g=>rfl) ?_)
  conv=>whnf
 refine rg 0 ?_
 conv=>whnf
 obtain⟨x1,hx1,hj1⟩:=ob hj1;refine au (zY _ _ _ hx1) acs (.cons (.same _) .nil) (fun g=>by simp) (fun g=>rfl) ?_
 conv=>whnf
 refine aD hj1 (fun hc1 hj1=>?_) (fun hc1 hj1=>?_)
 ·conv=>whnf
  obtain⟨x2,hx2,hj1⟩:=ob hj1;refine au (EO _ _ _ hx2) aj5 (.cons (.same _) .nil) (fun g=>by simp) (fun g=>by simp) ?_
  conv=>whnf
  obtain⟨x3,hx3,hj1⟩:=ob hj1;refine dP [0] [] [.slice (List.map encS x2) .shared,.func 96 [.ptr 0 0]] [.slice (List.map encS x2) .shared,.func 96 [.ptr 0 0]] (AL _ _ _ _ _ hx3) aj1 rfl (.cons (by simp only[bN,ren,bD,bA,dK,bY,bP,bS,dF,bK,dB,aJ,aQ,aH,aT,aG,aU];try rfl) .nil) (by simp;try decide) (.cons (.same _) (.cons (.same _) .nil)) (rn:=.bool x3) (rfl) (Hn:=[.box [.slice (List.map aj p0.carriers) .shared,.slice (List.map aB p0.names) .shared]]) ((fC (by simp only[bN,ren,bD,bA,dK,bY,bP,bS,dF,bK,dB,aJ,aQ,aH,aT,aG,aU];try rfl) rfl)) ?_
  conv=>whnf
  cases hj1;exact hR1 _ _ (wk [] (.u4 (.c rfl (.u8 (.u .nil)))) .nil rfl)
 conv=>whnf
 cases hj1;exact hR1 _ _ (wk [] (.u4 (.c rfl (.u8 (.u .nil)))) .nil rfl)
theorem IG(n:Nat)(p0:Int)(r:Bool)(h:cmp_isNaN_int n p0=some r):ak Tryz.prog 114 [.int .i64 p0] [] (.bool r) []:=by
 unfold cmp_isNaN_int at h;refine aA true Tryz.func114 rfl (by rw[Tryz.ntmps114];exact qAa rfl) fun Q hQ t ht=>?_
 conv at ht=>whnf
 subst ht;refine .q fun K1 k1=>?_;refine rg 0 ?_
 conv=>whnf
 refine k1 _ _ ?_;refine .q fun K2 k2=>?_;refine rg 0 ?_
 conv=>whnf
 refine k2 _ _ ?_;refine .ret ?_
 conv=>whnf
 have e9:=sj h;subst e9;refine hQ _ _ _ (aF aL (fun g=>rfl) ?_)
 conv=>whnf
theorem Fb(n:Nat)(p0:Int)(p1:Int)(r:Int)(h:cmp_Compare_int n p0 p1=some r):ak Tryz.prog 60 [.int .i64 p0,.int .i64 p1] [] (.int .i64 r) []:=by
 unfold cmp_Compare_int at h;refine aA true Tryz.func60 rfl (by rw[Tryz.ntmps60];exact qAa rfl) fun Q hQ t ht=>?_
 conv at ht=>whnf
 subst ht;refine .q fun K1 k1=>?_;refine rg 0 ?_
 conv=>whnf
 refine k1 _ _ ?_;refine .q fun K2 k2=>?_;refine rg 0 ?_
 conv=>whnf
 refine au (IG 0 p0 _ rfl) agi (.cons (.same _) .nil) (fun g=>rfl) (fun g=>rfl) ?_
 conv=>whnf
 refine k2 _ _ ?_;refine .q fun K3 k3=>?_;refine rg 0 ?_
 conv=>whnf
 refine au (IG 0 p1 _ rfl) agi (.cons (.same _) .nil) (fun g=>rfl) (fun g=>rfl) ?_
 conv=>whnf
 refine k3 _ _ ?_;refine .q fun K4 k4=>?_;refine .q fun K5 k5=>?_;refine rg 0 ?_
 conv=>whnf
 refine k5 _ _ ?_;refine .aK rfl h (fun hc1 h=>?_) (fun hc1 h=>?_)
 ·refine .q fun K6 k6=>?_;refine .q fun K7 k7=>?_;refine rg 0 ?_
  conv=>whnf
  refine k7 _ _ ?_;refine .aK rfl h (fun hc2 h=>?_) (fun hc2 h=>?_)
  ·refine .q fun K8 k8=>?_;refine rg 0 ?_
   conv=>whnf
   refine k8 _ _ ?_;refine .ret ?_
   conv=>whnf
   have e9:=sj h;subst e9;refine hQ _ _ _ (aF aL (fun g=>rfl) ?_)
   conv=>whnf
  refine .skip ?_
  conv=>whnf
  refine k6 _ _ ?_;refine .q fun K9 k9=>?_;refine rg 0 ?_
  conv=>whnf
  refine k9 _ _ ?_;refine .ret ?_
  conv=>whnf
  have e9:=sj h;subst e9;refine hQ _ _ _ (aF aL (fun g=>rfl) ?_)
  conv=>whnf
 refine .skip ?_
 conv=>whnf
 refine k4 _ _ ?_;refine .q fun K10 k10=>?_;refine .q fun K11 k11=>?_;refine rg 0 ?_
 conv=>whnf
 refine k11 _ _ ?_;refine .aK rfl h (fun hc3 h=>?_) (fun hc3 h=>?_)
 ·refine .q fun K12 k12=>?_;refine rg 0 ?_
  conv=>whnf
  refine k12 _ _ ?_;refine .ret ?_
  conv=>whnf
  have e9:=sj h;subst e9;refine hQ _ _ _ (aF aL (fun g=>rfl) ?_)
  conv=>whnf
 refine .skip ?_
 conv=>whnf
 refine k10 _ _ ?_;refine .q fun K13 k13=>?_;refine .q fun K14 k14=>?_;refine rg 0 ?_
 conv=>whnf
 refine k14 _ _ ?_;refine .aK rfl h (fun hc4 h=>?_) (fun hc4 h=>?_)
 ·refine .q fun K15 k15=>?_;refine rg 0 ?_
  conv=>whnf
  refine k15 _ _ ?_;refine .ret ?_
  conv=>whnf
  have e9:=sj h;subst e9;refine hQ _ _ _ (aF aL (fun g=>rfl) ?_)
  conv=>whnf
 refine .skip ?_
 conv=>whnf
 refine k13 _ _ ?_;refine .q fun K16 k16=>?_;refine .q fun K17 k17=>?_;refine rg 0 ?_
 conv=>whnf
 refine k17 _ _ ?_;refine .aK rfl h (fun hc5 h=>?_) (fun hc5 h=>?_)
 ·refine .q fun K18 k18=>?_;refine rg 0 ?_
  conv=>whnf
  refine k18 _ _ ?_;refine .ret ?_
  conv=>whnf
  have e9:=sj h;subst e9;refine hQ _ _ _ (aF aL (fun g=>rfl) ?_)
  conv=>whnf
 refine .skip ?_
 conv=>whnf
 refine k16 _ _ ?_;refine .q fun K19 k19=>?_;refine rg 0 ?_
 conv=>whnf
 refine k19 _ _ ?_;refine .ret ?_
 conv=>whnf
 have e9:=sj h;subst e9;refine hQ _ _ _ (aF aL (fun g=>rfl) ?_)
 conv=>whnf
theorem abk(n:Nat)(p0:List Int)(r:Int)(h:Gr n p0=some r):ak Tryz.prog 59 [.slice (List.map encI p0) .shared] [] (.int .i64 r) []:=by
 unfold Gr at h;refine aA true Tryz.func59 rfl (by rw[Tryz.ntmps59];exact qAa rfl) fun Q hQ t ht=>?_
 conv at ht=>whnf
 subst ht;refine .q fun K1 k1=>?_;refine rg 0 ?_
 conv=>whnf
 refine k1 _ _ ?_;refine .q fun K2 k2=>?_;refine rg 0 ?_
 conv=>whnf
 refine k2 _ _ ?_;refine .q fun K3 k3=>?_;refine .q fun K4 k4=>?_;refine rg 0 ?_
 conv=>whnf
 refine aY (l:=p0) (f:=encI) ?_
 conv=>whnf
 refine k4 _ _ ?_;refine .block ?_;obtain⟨o1,ho1,h⟩:=ob h;have hR1:∀s2:Unit,o1=.nx s2→∀t9 h9,Le 0 t9 h9 (u2 (.unk::(.int .i64 0::(u8 (u4 (u2 [])))))) []→K3 t9 h9:=by
  intro s2 ho;subst ho;dsimp only[LR.el]at h;intro t9 h9 hw;refine k3 _ _ (AW.le hw ?_);refine .q fun K5 k5=>?_;refine rg 0 ?_
  conv=>whnf
  refine k5 _ _ ?_;refine .ret ?_
  conv=>whnf
  have e9:=sj h;subst e9;refine hQ _ _ _ (aF aL (fun g=>rfl) ?_)
  conv=>whnf
 refine .loopS (tO n p0) (fun(s1:Int)=>(u2 (.unk::(.int .i64 0::(u2 (.slice (List.map encI p0) .shared::(.int .i64 (p0.length:Int)::(.int .i64 s1::(u8 (.unk::[])))))))))) (fun(s1:Int)=>[]) ho1 (fun _=>rfl) (li (.u2 (.u (.s (.u2 (.s (.s (.s (.u8 (.u .n)))))))))) ?_;intro n1 s1 hs1 KL1 hKL1;unfold tO at hs1;refine .q fun K6 k6=>?_;refine rg 0 ?_
 conv=>whnf
 refine k6 _ _ ?_;refine .q fun K7 k7=>?_;refine .aK rfl hs1 (fun hc1 hs1=>?_) (fun hc1 hs1=>?_)
 ·refine .skip ?_
  conv=>whnf
  refine k7 _ _ ?_;refine .q fun K8 k8=>?_;refine .block ?_;refine .q fun K9 k9=>?_;refine rg 0 ?_
  conv=>whnf
  obtain⟨x1,hx1,hs1⟩:=ob hs1;refine bf (l:=p0) (f:=encI) (cs:=[.int .i64 (x1)]) hx1 (rfl) rfl ?_
  conv=>whnf
  refine k9 _ _ ?_;refine .q fun K10 k10=>?_;refine rg 0 ?_
  conv=>whnf
  refine k10 _ _ ?_;refine .aK rfl hs1 (fun hc2 hs1=>?_) (fun hc2 hs1=>?_)
  ·refine .q fun K11 k11=>?_;refine rg 0 ?_
   conv=>whnf
   refine k11 _ _ ?_;refine .ret ?_
   conv=>whnf
   have e9:=sj hs1;subst e9;dsimp only[LR.el]at h;have e9:=sj h;subst e9;refine hQ _ _ _ (aF aL (fun g=>rfl) ?_)
   conv=>whnf
  refine .skip ?_
  conv=>whnf
  refine k8 _ _ ?_;refine .know 8 0 fun hv1=>?_;refine .know 6 0 fun hv2=>?_;refine rg 0 ?_
  conv=>whnf
  refine⟨(s1+1),by have:=fP hv1;have:=mO hv2;have h8:=of_decide_eq_true hc1;exact bT (by omega) (by omega),?_⟩
  conv=>whnf
  exact hKL1 _ _ _ hs1 (li (.u2 (.u (.s (.u2 (.s (.s (.s (.u8 (.u .n))))))))))
 refine .exit ?_
 conv=>whnf
 exact hR1 _ (sj hs1).symm _ _ (li (.u2 (.u (.s (.u8 (.u4 (.u2 .n)))))))
abbrev qev(qd5:(List Val)→(List Val)→Option Int):Prop:=∀(p0:List Val) (p1:List Val) (r:Int),qd5 p0 p1=some r→ak Tryz.prog 62 [.slice (List.map ah p0) .shared,.slice (List.map ah p1) .shared,.func 23 []] [] (.int .i64 r) []
abbrev qbi(qdx:Val→Val→Option Int):Prop:=∀(p0:Val) (p1:Val) (r:Int),qdx p0 p1=some r→ak Tryz.prog 23 [.agg [.int .i64 p0.kind,.int .i64 p0.n,.str p0.name,.slice (List.map ah p0.kids) .shared],.agg [.int .i64 p1.kind,.int .i64 p1.n,.str p1.name,.slice (List.map ah p1.kids) .shared]] [] (.int .i64 r) []
theorem Bb(n:Nat)(qd5:(List Val)→(List Val)→Option Int)(qdx:Val→Val→Option Int)(qb7:qev qd5)(qb2:qbi qdx)(p0:List Val)(p1:List Val)(r:Int)(h:jo n qd5 qdx p0 p1=some r):ak Tryz.prog 62 [.slice (List.map ah p0) .shared,.slice (List.map ah p1) .shared,.func 23 []] [] (.int .i64 r) []:=by
 unfold jo at h;refine aA true Tryz.func62 rfl (by rw[Tryz.ntmps62];exact qAa rfl) fun Q hQ t ht=>?_
 conv at ht=>whnf
 subst ht;refine .q fun K1 k1=>?_;refine rg 0 ?_
 conv=>whnf
 refine k1 _ _ ?_;refine .q fun K2 k2=>?_;refine .q fun K3 k3=>?_;refine rg 0 ?_
 conv=>whnf
 refine aY (l:=p0) (f:=ah) ?_
 conv=>whnf
 refine k3 _ _ ?_;refine .block ?_;obtain⟨o1,ho1,h⟩:=ob h;have hR1:∀s2:Unit,o1=.nx s2→∀t9 h9,Le 0 t9 h9 (.slice (List.map ah p0) .shared::(.slice (List.map ah p1) .shared::(u32 (u4 (.unk::[]))))) []→K2 t9 h9:=by
  intro s2 ho;subst ho;dsimp only[LR.el]at h;intro t9 h9 hw;refine k2 _ _ (AW.le hw ?_);refine .q fun K4 k4=>?_;refine .q fun K5 k5=>?_;refine rg 0 ?_
  conv=>whnf
  refine aY (l:=p0) (f:=ah) ?_
  conv=>whnf
  refine aY (l:=p1) (f:=ah) ?_
  conv=>whnf
  refine k5 _ _ ?_;refine .aK rfl h (fun hc1 h=>?_) (fun hc1 h=>?_)
  ·refine .q fun K6 k6=>?_;refine rg 0 ?_
   conv=>whnf
   refine k6 _ _ ?_;refine .ret ?_
   conv=>whnf
   have e9:=sj h;subst e9;refine hQ _ _ _ (aF aL (fun g=>rfl) ?_)
   conv=>whnf
  refine .skip ?_
  conv=>whnf
  refine k4 _ _ ?_;refine .q fun K7 k7=>?_;refine rg 0 ?_
  conv=>whnf
  refine k7 _ _ ?_;refine .ret ?_
  conv=>whnf
  have e9:=sj h;subst e9;refine hQ _ _ _ (aF aL (fun g=>rfl) ?_)
  conv=>whnf
 refine .loopS (eH n qd5 qdx p0 p1) (fun(s1:Int)=>(.slice (List.map ah p0) .shared::(.slice (List.map ah p1) .shared::(.func 23 []::(u8 (.slice (List.map ah p0) .shared::(.int .i64 (p0.length:Int)::(.int .i64 s1::(u16 (u8 (.unk::[]))))))))))) (fun(s1:Int)=>[]) ho1 (fun _=>rfl) (li (.s (.s (.s (.u8 (.s (.s (.s (.u16 (.u8 (.u .n))))))))))) ?_;intro n1 s1 hs1 KL1 hKL1;unfold eH at hs1;refine .q fun K8 k8=>?_;refine rg 0 ?_
 conv=>whnf
 refine k8 _ _ ?_;refine .q fun K9 k9=>?_;refine .aK rfl hs1 (fun hc2 hs1=>?_) (fun hc2 hs1=>?_)
 ·refine .skip ?_
  conv=>whnf
  refine k9 _ _ ?_;refine .q fun K10 k10=>?_;refine .block ?_;refine .q fun K11 k11=>?_;refine rg 1 ?_
  conv=>whnf
  obtain⟨x1,hx1,hs1⟩:=ob hs1;refine bf (l:=p0) (f:=ah) (cs:=[.int .i64 ((x1).kind),.int .i64 ((x1).n),.str ((x1).name),.slice (List.map ah ((x1).kids)) .shared]) hx1 (aS x1) rfl ?_
  conv=>whnf
  refine k11 _ _ ?_;refine .q fun K12 k12=>?_;refine .q fun K13 k13=>?_;refine rg 0 ?_
  conv=>whnf
  refine aY (l:=p1) (f:=ah) ?_
  conv=>whnf
  refine k13 _ _ ?_;refine .aK rfl hs1 (fun hc3 hs1=>?_) (fun hc3 hs1=>?_)
  ·refine .q fun K14 k14=>?_;refine rg 0 ?_
   conv=>whnf
   refine k14 _ _ ?_;refine .ret ?_
   conv=>whnf
   have e9:=sj hs1;subst e9;dsimp only[LR.el]at h;have e9:=sj h;subst e9;refine hQ _ _ _ (aF aL (fun g=>rfl) ?_)
   conv=>whnf
  refine .skip ?_
  conv=>whnf
  refine k12 _ _ ?_;refine .q fun K15 k15=>?_;refine rg 1 ?_
  conv=>whnf
  obtain⟨x2,hx2,hs1⟩:=ob hs1;refine bf (l:=p1) (f:=ah) (cs:=[.int .i64 ((x2).kind),.int .i64 ((x2).n),.str ((x2).name),.slice (List.map ah ((x2).kids)) .shared]) hx2 (aS x2) rfl ?_
  conv=>whnf
  refine k15 _ _ ?_;refine .q fun K16 k16=>?_;refine rg 0 ?_
  conv=>whnf
  obtain⟨x3,hx3,hs1⟩:=ob hs1;refine au (qb2 _ _ _ hx3) EN (.cons (.same _) (.cons (.same _) .nil)) (fun g=>by simp) (fun g=>rfl) ?_
  conv=>whnf
  refine k16 _ _ ?_;refine .q fun K17 k17=>?_;refine rg 0 ?_
  conv=>whnf
  refine k17 _ _ ?_;refine .aK rfl hs1 (fun hc4 hs1=>?_) (fun hc4 hs1=>?_)
  ·refine .q fun K18 k18=>?_;refine rg 0 ?_
   conv=>whnf
   refine k18 _ _ ?_;refine .ret ?_
   conv=>whnf
   have e9:=sj hs1;subst e9;dsimp only[LR.el]at h;have e9:=sj h;subst e9;refine hQ _ _ _ (aF aL (fun g=>rfl) ?_)
   conv=>whnf
  refine .skip ?_
  conv=>whnf
  refine k10 _ _ ?_;refine .know 7 0 fun hv1=>?_;refine .know 0 0 fun hv2=>?_;refine rg 0 ?_
  conv=>whnf
  refine⟨(s1+1),by have:=fP hv1;have:=mO hv2;have h8:=of_decide_eq_true hc2;exact bT (by omega) (by omega),?_⟩
  conv=>whnf
  exact hKL1 _ _ _ hs1 (wk [] (.e aH (.e aH (.cons (.func' .nil) (.u8 (.e aH (.c rfl (.c rfl (.u16 (.u8 (.u .nil)))))))))) .nil rfl)
 refine .exit ?_
 conv=>whnf
 exact hR1 _ (sj hs1).symm _ _ (li (.s (.s (.u16 (.u16 (.u4 (.u .n)))))))
theorem Nh(n:Nat)(qd5:(List Val)→(List Val)→Option Int)(qdx:Val→Val→Option Int)(qb7:qev qd5)(qb2:qbi qdx)(p0:Val)(p1:Val)(r:Int)(h:qV n qd5 qdx p0 p1=some r):ak Tryz.prog 23 [.agg [.int .i64 p0.kind,.int .i64 p0.n,.str p0.name,.slice (List.map ah p0.kids) .shared],.agg [.int .i64 p1.kind,.int .i64 p1.n,.str p1.name,.slice (List.map ah p1.kids) .shared]] [] (.int .i64 r) []:=by
 unfold qV at h;refine aA true Tryz.func23 rfl (by rw[Tryz.ntmps23];exact qAa rfl) fun Q hQ t ht=>?_
 conv at ht=>whnf
 subst ht;refine .q fun K1 k1=>?_;refine rg 2 ?_
 conv=>whnf
 refine k1 _ _ ?_;refine .q fun K2 k2=>?_;refine .q fun K3 k3=>?_;refine rg 1 ?_
 conv=>whnf
 obtain⟨x1,hx1,h⟩:=ob h;refine au (Fb _ _ _ _ hx1) ai4 (.cons (.same _) (.cons (.same _) .nil)) (fun g=>rfl) (fun g=>rfl) ?_
 conv=>whnf
 obtain⟨x2,hx2,h⟩:=ob h;refine au (Fb _ _ _ _ hx2) ai4 (.cons (.same _) (.cons (.same _) .nil)) (fun g=>rfl) (fun g=>rfl) ?_
 conv=>whnf
 obtain⟨x3,hx3,h⟩:=ob h;refine au (EU _ _ _ _ hx3) apv (.cons (.same _) (.cons (.same _) .nil)) (fun g=>rfl) (fun g=>rfl) ?_
 conv=>whnf
 refine⟨List.map encI ([x1,x2,x3]),rfl,?_⟩
 conv=>whnf
 obtain⟨x4,hx4,h⟩:=ob h;refine au (abk _ _ _ hx4) apD (.cons (.share _ _) .nil) (fun g=>by simp) (fun g=>rfl) ?_
 conv=>whnf
 refine⟨by kernel_rfl,?_⟩
 conv=>whnf
 refine k3 _ _ ?_;refine .q fun K4 k4=>?_;refine rg 0 ?_
 conv=>whnf
 refine k4 _ _ ?_;refine .aK rfl h (fun hc1 h=>?_) (fun hc1 h=>?_)
 ·refine .q fun K5 k5=>?_;refine rg 0 ?_
  conv=>whnf
  refine k5 _ _ ?_;refine .ret ?_
  conv=>whnf
  have e9:=sj h;subst e9;refine hQ _ _ _ (aF aL (fun g=>rfl) ?_)
  conv=>whnf
 refine .skip ?_
 conv=>whnf
 refine k2 _ _ ?_;refine .q fun K6 k6=>?_;refine rg 0 ?_
 conv=>whnf
 obtain⟨x5,hx5,h⟩:=ob h;refine au (qb7 _ _ _ hx5) ao6 (.cons (.same _) (.cons (.same _) (.cons (.same _) .nil))) (fun g=>by simp) (fun g=>rfl) ?_
 conv=>whnf
 refine k6 _ _ ?_;refine .ret ?_
 conv=>whnf
 have e9:=sj h;subst e9;refine hQ _ _ _ (aF aL (fun g=>rfl) ?_)
 conv=>whnf
theorem vY(n:Nat):qev (fK n)∧qbi (dW n):=by
 induction n with
 |zero=>exact⟨(fun p0 p1 r h=>by unfold fK at h;cases h),(fun p0 p1 r h=>by unfold dW at h;cases h)⟩
 |succ n ih=>
  exact⟨(fun p0 p1 r h=>Bb n _ _ ih.1 ih.2 p0 p1 r (by unfold fK at h;exact h)),(fun p0 p1 r h=>Nh n _ _ ih.1 ih.2 p0 p1 r (by unfold dW at h;exact h))⟩
theorem mE(n:Nat):qbi (dW n):=(vY n).2
end
section
open Go Go.Proofs
theorem aqb:aZ Tryz.prog 32=true:=by kernel_rfl
theorem ao2:aZ Tryz.prog 33=true:=by kernel_rfl
theorem aqJ:aZ Tryz.prog 35=true:=by kernel_rfl
theorem ao0:aZ Tryz.prog 38=true:=by kernel_rfl
theorem Qk:aZ Tryz.prog 72=true:=by kernel_rfl
theorem PU:aZ Tryz.prog 73=true:=by kernel_rfl
theorem VT:aZ Tryz.prog 75=true:=by kernel_rfl
theorem agN:aZ Tryz.prog 128=true:=by kernel_rfl
theorem aot:aZ Tryz.prog 129=true:=by kernel_rfl
theorem anE:aZ Tryz.prog 130=true:=by kernel_rfl
theorem aga:aZ Tryz.prog 131=true:=by kernel_rfl
theorem aoB:aZ Tryz.prog 176=true:=by kernel_rfl
end
section
open Go Go.Proofs
set_option maxRecDepth 100000
set_option maxHeartbeats 40000000
theorem e5x0{p q:Prop}(f:p→q)(h:p:=by exact wk [some 0] (.u (.c rfl (.u32 (.u8 (.u4 (.u2 (.u (.e aQ (.c rfl (.c rfl (.u16 (.u2 (.u (.c rfl (.u4 .nil))))))))))))))) (.b rfl (.e aJ (.e aQ .nil)) .nil) rfl):q:=f h
theorem Qy(n:Nat)(p0:Env)(r:List Str)(h:kG n p0=some r):ak Tryz.prog 92 [.agg [.slice (List.map aj p0.carriers) .shared,.slice (List.map aB p0.names) .shared]] [] (.slice (List.map encS r) (.tip 0 1)) [.tip (List.length r*1)]:=by
 unfold kG at h;refine aA false Tryz.func92 rfl (by rw[Tryz.ntmps92];exact qAa rfl) fun Q hQ t ht=>?_
 conv at ht=>whnf
 subst ht;refine .q fun K1 k1=>?_;refine rg 1 ?_
 conv=>whnf
 refine k1 _ _ ?_;refine .q fun K2 k2=>?_;refine rg 0 ?_
 conv=>whnf
 refine k2 _ _ ?_;refine .q fun K3 k3=>?_;refine .q fun K4 k4=>?_;refine rg 0 ?_
 conv=>whnf
 refine aY (l:=p0.carriers) (f:=aj) ?_
 conv=>whnf
 refine k4 _ _ ?_;refine .block ?_;obtain⟨o1,ho1,h⟩:=ob h;have hR1:∀s2:List Str,o1=.nx s2→∀t9 h9,Le 0 t9 h9 (.unk::(.ptr 0 0::(.unk::(.slice (List.map encS s2) (.tip 1 1)::(u32 (u2 [])))))) [.box [.slice (List.map aj p0.carriers) .shared,.slice (List.map aB p0.names) .shared],.tip (List.length s2*1)]→K3 t9 h9:=by
  intro s2 ho;subst ho;dsimp only[LR.el]at h;intro t9 h9 hw;refine k3 _ _ (AW.le hw ?_);refine .q fun K5 k5=>?_;refine .q fun K6 k6=>?_;refine rg 0 ?_
  conv=>whnf
  refine aY (l:=p0.names) (f:=aB) ?_
  conv=>whnf
  refine k6 _ _ ?_;refine .block ?_;obtain⟨o2,ho2,h⟩:=ob h;have hR2:∀s4:List Str,o2=.nx s4→∀t9 h9,Le 0 t9 h9 (u2 (.unk::(.slice (List.map encS s4) (.tip 0 1)::(u32 (u2 []))))) [.tip (List.length s4*1)]→K5 t9 h9:=by
   intro s4 ho;subst ho;dsimp only[LR.el]at h;intro t9 h9 hw;refine k5 _ _ (AW.le hw ?_);refine .q fun K7 k7=>?_;refine rg 0 ?_
   conv=>whnf
   refine k7 _ _ ?_;refine .ret ?_
   conv=>whnf
   have e9:=sj h;subst e9;refine hQ _ _ _ (jf (u2 (.slice (List.map encS s4) (.tip 0 1)::(u32 (u2 (.unk::[]))))) [.tip (List.length s4*1)] (wk [some 0] (.u2 (.cons (.tK (bS _ _) rfl) (.u32 (.u2 (.u .nil))))) (.t rfl .nil) rfl) (dI aL [0] rfl (.cons (rfl) .nil) ?_))
   conv=>whnf
   first|rfl|(simp;done)|(simp;rfl)|(simp;and_intros<;>rfl)
  refine .loopS (lF n p0) (fun(s3:(List Str)×Int)=>(u2 (.unk::(.slice (List.map encS s3.1) (.tip 0 1)::(u16 (u4 (.unk::(.slice (List.map aB p0.names) .shared::(.int .i64 (p0.names.length:Int)::(.int .i64 s3.2::(u8 (u2 [])))))))))))) (fun(s3:(List Str)×Int)=>[.tip (List.length s3.1*1)]) ho2 (fun _=>rfl) (wk [some 1] (.u2 (.u (.cons (.tK (bS _ _) rfl) (.u16 (.u4 (.u (.e aQ (.c rfl (.c rfl (.u8 (.u2 .nil))))))))))) (.t rfl .nil) rfl) ?_;intro n2 s3 hs2 KL2 hKL2;unfold lF at hs2;refine .q fun K8 k8=>?_;refine rg 0 ?_
  conv=>whnf
  refine k8 _ _ ?_;refine .q fun K9 k9=>?_;refine .aK rfl hs2 (fun hc1 hs2=>?_) (fun hc1 hs2=>?_)
  ·refine .skip ?_
   conv=>whnf
   refine k9 _ _ ?_;refine .q fun K10 k10=>?_;refine .block ?_;refine .q fun K11 k11=>?_;refine rg 1 ?_
   conv=>whnf
   obtain⟨x1,hx1,hs2⟩:=ob hs2;refine bf (l:=p0.names) (f:=aB) (cs:=[.str ((x1).name),.int .i64 (((x1).ty).kind),.str (((x1).ty).name),.slice (List.map aC (((x1).ty).kids)) .shared]) hx1 (rfl) rfl ?_
   conv=>whnf
   refine k11 _ _ ?_;refine rg 2 ?_
   conv=>whnf
   refine⟨List.map encS ([x1.name]),rfl,?_⟩
   conv=>whnf
   obtain⟨x2,hx2,hs2⟩:=ob hs2;refine jA (l:=s3.1) (ys:=[x1.name]) (f:=encS) hx2 Ls rfl rfl rfl ?_
   conv=>whnf
   refine k10 _ _ ?_;refine .know 27 0 fun hv1=>?_;refine .know 25 0 fun hv2=>?_;refine rg 0 ?_
   conv=>whnf
   refine⟨(s3.2+1),by have:=fP hv1;have:=mO hv2;have h8:=of_decide_eq_true hc1;exact bT (by omega) (by omega),?_⟩
   conv=>whnf
   exact hKL2 _ _ _ hs2 (wk [some 3] (.u2 (.u (.cons (.tK (bS _ _) rfl) (.u16 (.u4 (.u (.e aQ (.c rfl (.c rfl (.u8 (.u2 .nil))))))))))) (.t rfl .nil) rfl)
  refine .exit ?_
  conv=>whnf
  exact hR2 _ (sj hs2).symm _ _ (li (.u2 (.u (.s (.u16 (.u16 (.u2 .n)))))))
 refine .loopS (lH n p0) (fun(s1:(List Str)×Int)=>(.unk::(.ptr 0 0::(.unk::(.slice (List.map encS s1.1) (.tip 1 1)::(u4 (.unk::(.slice (List.map aj p0.carriers) .shared::(.int .i64 (p0.carriers.length:Int)::(.int .i64 s1.2::(u16 (u8 (u2 []))))))))))))) (fun(s1:(List Str)×Int)=>[.box [.slice (List.map aj p0.carriers) .shared,.slice (List.map aB p0.names) .shared],.tip (List.length s1.1*1)]) ho1 (fun _=>rfl) (wk [some 0,none] (.u (.c rfl (.u (.cons (.nils _ _) (.u4 (.u (.e aJ (.c rfl (.c rfl (.u16 (.u8 (.u2 .nil)))))))))))) (.b rfl (.e aJ (.e aQ .nil)) (.w rfl .nil)) rfl) ?_;intro n1 s1 hs1 KL1 hKL1;unfold lH at hs1;refine .q fun K12 k12=>?_;refine rg 0 ?_
 conv=>whnf
 refine k12 _ _ ?_;refine .q fun K13 k13=>?_;refine .aK rfl hs1 (fun hc2 hs1=>?_) (fun hc2 hs1=>?_)
 ·refine .skip ?_
  conv=>whnf
  refine k13 _ _ ?_;refine .q fun K14 k14=>?_;refine .block ?_;refine .q fun K15 k15=>?_;refine rg 1 ?_
  conv=>whnf
  obtain⟨x3,hx3,hs1⟩:=ob hs1;refine bf (l:=p0.carriers) (f:=aj) (cs:=[.str ((x3).name),.slice (List.map encS ((x3).elems)) .shared]) hx3 (rfl) rfl ?_
  conv=>whnf
  refine k15 _ _ ?_;refine rg 3 ?_
  conv=>whnf
  refine⟨List.map encS ([x3.name]),rfl,?_⟩
  conv=>whnf
  obtain⟨x4,hx4,hs1⟩:=ob hs1;refine jA (l:=s1.1) (ys:=[x3.name]) (f:=encS) hx4 Ls rfl rfl rfl ?_
  conv=>whnf
  obtain⟨x5,hx5,hs1⟩:=ob hs1;refine jA (l:=x4) (ys:=x3.elems) (f:=encS) hx5 Ls rfl rfl rfl ?_
  conv=>whnf
  refine⟨by kernel_rfl,?_⟩
  conv=>whnf
  refine k14 _ _ ?_;refine .know 11 0 fun hv3=>?_;refine .know 9 0 fun hv4=>?_;refine rg 0 ?_
  conv=>whnf
  refine⟨(s1.2+1),by have:=fP hv3;have:=mO hv4;have h8:=of_decide_eq_true hc2;exact bT (by omega) (by omega),?_⟩
  conv=>whnf
  exact hKL1 _ _ _ hs1 (wk [some 0,some 5] (.u (.c rfl (.u (.cons (.tK (bS _ _) rfl) (.u4 (.u (.e aJ (.c rfl (.c rfl (.u16 (.u8 (.u2 .nil)))))))))))) (.b rfl (.e aJ (.e aQ .nil)) (.t rfl .nil)) rfl)
 refine .exit ?_
 conv=>whnf
 exact hR1 _ (sj hs1).symm _ _ (li (.u (.s (.u (.s (.u16 (.u16 (.u2 .n))))))))
theorem PN(n:Nat)(p0:List Str)(r:Bool)(h:mq n p0=some r):ak Tryz.prog 91 [.slice (List.map encS p0) .shared] [] (.bool r) []:=by
 unfold mq at h;refine aA true Tryz.func91 rfl (by rw[Tryz.ntmps91];exact qAa rfl) fun Q hQ t ht=>?_
 conv at ht=>whnf
 subst ht;refine .q fun K1 k1=>?_;refine rg 0 ?_
 conv=>whnf
 refine k1 _ _ ?_;refine .q fun K2 k2=>?_;refine rg 1 ?_
 conv=>whnf
 refine k2 _ _ ?_;refine .q fun K3 k3=>?_;refine .q fun K4 k4=>?_;refine rg 0 ?_
 conv=>whnf
 refine aY (l:=p0) (f:=encS) ?_
 conv=>whnf
 refine k4 _ _ ?_;refine .block ?_;obtain⟨o1,ho1,h⟩:=ob h;have hR1:∀s2:Unit,o1=.nx s2→∀t9 h9,Le 0 t9 h9 (u16 (u2 (.unk::[]))) []→K3 t9 h9:=by
  intro s2 ho;subst ho;dsimp only[LR.el]at h;intro t9 h9 hw;refine k3 _ _ (AW.le hw ?_);refine .q fun K5 k5=>?_;refine rg 0 ?_
  conv=>whnf
  refine k5 _ _ ?_;refine .ret ?_
  conv=>whnf
  have e9:=sj h;subst e9;refine hQ _ _ _ (aF aL (fun g=>rfl) ?_)
  conv=>whnf
 refine .loopS (lu n p0) (fun(s1:Int×(List (Str×Bool)))=>(u2 (.unk::(.mapr 0::(u2 (.unk::(.slice (List.map encS p0) .shared::(.int .i64 (p0.length:Int)::(.int .i64 s1.1::(u8 (.unk::[]))))))))))) (fun(s1:Int×(List (Str×Bool)))=>[.mp (List.map (fun p=>(p.1,(fun(x:Bool)=>.bool x) p.2)) s1.2)]) ho1 (fun _=>rfl) (li (.u2 (.u (.s (.u2 (.u (.s (.s (.s (.u8 (.u .n))))))))))) ?_;intro n1 s1 hs1 KL1 hKL1;unfold lu at hs1;refine .q fun K6 k6=>?_;refine rg 0 ?_
 conv=>whnf
 refine k6 _ _ ?_;refine .q fun K7 k7=>?_;refine .aK rfl hs1 (fun hc1 hs1=>?_) (fun hc1 hs1=>?_)
 ·refine .skip ?_
  conv=>whnf
  refine k7 _ _ ?_;refine .q fun K8 k8=>?_;refine .block ?_;refine .q fun K9 k9=>?_;refine rg 0 ?_
  conv=>whnf
  obtain⟨x1,hx1,hs1⟩:=ob hs1;refine bf (l:=p0) (f:=encS) (cs:=[.str (x1)]) hx1 (rfl) rfl ?_
  conv=>whnf
  refine k9 _ _ ?_;refine .q fun K10 k10=>?_;refine .q fun K11 k11=>?_;obtain⟨s3,hj1,hs1⟩:=ob hs1;have hR2:∀t9 h9,Le 0 t9 h9 (u2 (.unk::(.mapr 0::(.unk::(.str x1::(.unk::(.slice (List.map encS p0) .shared::(.int .i64 (p0.length:Int)::(.int .i64 s1.1::(u4 (.unk::(.bool s3::(u2 (.unk::[])))))))))))))) [.mp (List.map (fun p=>(p.1,(fun(x:Bool)=>.bool x) p.2)) s1.2)]→K11 t9 h9:=by
   intro t9 h9 hw;refine k11 _ _ (AW.le hw ?_);clear hw;refine .aK rfl hs1 (fun hc2 hs1=>?_) (fun hc2 hs1=>?_)
   ·refine .q fun K12 k12=>?_;refine rg 0 ?_
    conv=>whnf
    refine k12 _ _ ?_;refine .ret ?_
    conv=>whnf
    have e9:=sj hs1;subst e9;dsimp only[LR.el]at h;have e9:=sj h;subst e9;refine hQ _ _ _ (aF aL (fun g=>rfl) ?_)
    conv=>whnf
   refine .skip ?_
   conv=>whnf
   refine k10 _ _ ?_;refine rg 0 ?_
   conv=>whnf
   obtain⟨x2,hx2,hs1⟩:=ob hs1;refine aiT (m:=s1.2) (f:=(fun(x:Bool)=>.bool x)) hx2 rfl ?_
   conv=>whnf
   refine k8 _ _ ?_;refine .know 9 0 fun hv1=>?_;refine .know 7 0 fun hv2=>?_;refine rg 0 ?_
   conv=>whnf
   refine⟨(s1.1+1),by have:=fP hv1;have:=mO hv2;have h8:=of_decide_eq_true hc1;exact bT (by omega) (by omega),?_⟩
   conv=>whnf
   exact hKL1 _ _ _ hs1 (li (.u2 (.u (.s (.u2 (.u (.s (.s (.s (.u8 (.u .n)))))))))))
  refine rg 0 ?_
  conv=>whnf
  refine anp (m:=s1.2) (f:=(fun(x:Bool)=>.bool x)) hj1 (fun x3 hx3 hj1=>?_) (fun hx3 hj1=>?_)
  ·conv=>whnf
   cases hj1;exact hR2 _ _ (li (.u2 (.u (.s (.u (.s (.u (.s (.s (.s (.u4 (.u (.s (.u2 (.u .n)))))))))))))))
  conv=>whnf
  cases hj1;exact hR2 _ _ (li (.u2 (.u (.s (.u (.s (.u (.s (.s (.s (.u4 (.u (.s (.u2 (.u .n)))))))))))))))
 refine .exit ?_
 conv=>whnf
 exact hR1 _ (sj hs1).symm _ _ (wk [] (.u16 (.u2 (.u .nil))) .nil rfl)
theorem yZ(n:Nat)(p0:Env)(r:Bool)(h:dH n p0=some r):ak Tryz.prog 42 [.agg [.slice (List.map aj p0.carriers) .shared,.slice (List.map aB p0.names) .shared]] [] (.bool r) []:=by
 unfold dH at h;refine aA true Tryz.func42 rfl (by rw[Tryz.ntmps42];exact qAa rfl) fun Q hQ t ht=>?_
 conv at ht=>whnf
 subst ht;refine .q fun K1 k1=>?_;refine rg 1 ?_
 conv=>whnf
 refine k1 _ _ ?_;refine .q fun K2 k2=>?_;refine .q fun K3 k3=>?_;obtain⟨s1,hj1,h⟩:=ob h;have hR1:∀t9 h9,Le 0 t9 h9 (.unk::(.ptr 0 0::(u16 (.bool s1::(u32 (u16 (u8 (.unk::[])))))))) [.box [.slice (List.map aj p0.carriers) .shared,.slice (List.map aB p0.names) .shared]]→K3 t9 h9:=by
  intro t9 h9 hw;refine k3 _ _ (AW.le hw ?_);clear hw;refine .aK rfl h (fun hc1 h=>?_) (fun hc1 h=>?_)
  ·refine .q fun K4 k4=>?_;refine rg 0 ?_
   conv=>whnf
   refine k4 _ _ ?_;refine .ret ?_
   conv=>whnf
   have e9:=sj h;subst e9;refine hQ _ _ _ (aF aL (fun g=>rfl) ?_)
   conv=>whnf
  refine .skip ?_
  conv=>whnf
  refine k2 _ _ ?_;refine .q fun K5 k5=>?_;refine .q fun K6 k6=>?_;refine rg 0 ?_
  conv=>whnf
  refine aY (l:=p0.carriers) (f:=aj) ?_
  conv=>whnf
  refine k6 _ _ ?_;refine .block ?_;obtain⟨o1,ho1,h⟩:=ob h;have hR2:∀s3:Unit,o1=.nx s3→∀t9 h9,Le 0 t9 h9 (.unk::(.ptr 0 0::(u64 (u8 (u2 []))))) [.box [.slice (List.map aj p0.carriers) .shared,.slice (List.map aB p0.names) .shared]]→K5 t9 h9:=by
   intro s3 ho;subst ho;dsimp only[LR.el]at h;intro t9 h9 hw;refine k5 _ _ (AW.le hw ?_);refine .q fun K7 k7=>?_;refine .q fun K8 k8=>?_;refine rg 0 ?_
   conv=>whnf
   refine aY (l:=p0.names) (f:=aB) ?_
   conv=>whnf
   refine k8 _ _ ?_;refine .block ?_;obtain⟨o2,ho2,h⟩:=ob h;have hR3:∀s5:Unit,o2=.nx s5→∀t9 h9,Le 0 t9 h9 (.unk::(.ptr 0 0::(u64 (u8 (u2 []))))) [.box [.slice (List.map aj p0.carriers) .shared,.slice (List.map aB p0.names) .shared]]→K7 t9 h9:=by
    intro s5 ho;subst ho;dsimp only[LR.el]at h;intro t9 h9 hw;refine k7 _ _ (AW.le hw ?_);refine .q fun K9 k9=>?_;refine rg 1 ?_
    conv=>whnf
    obtain⟨x1,hx1,h⟩:=ob h;refine dP [] [1] [.agg [.slice (List.map aj p0.carriers) .shared,.slice (List.map aB p0.names) .shared]] [.agg [.slice (List.map aj p0.carriers) .shared,.slice (List.map aB p0.names) .shared]] (Qy _ _ _ hx1) apP rfl .nil (by simp;try decide) (.cons (.same _) .nil) (rn:=.slice (List.map encS x1) (.tip 1 1)) (by simp;try decide) (Hn:=[.tip (List.length x1*1)]) ((fC (rfl) rfl)) ?_
    conv=>whnf
    obtain⟨x2,hx2,h⟩:=ob h;refine au (PN _ _ _ hx2) aoS (.cons (.share _ _) .nil) (fun g=>by simp) (fun g=>rfl) ?_
    conv=>whnf
    refine k9 _ _ ?_;refine .ret ?_
    conv=>whnf
    have e9:=sj h;subst e9;refine hQ _ _ _ (aF aL (fun g=>rfl) ?_)
    conv=>whnf
   refine .loopS (lG n p0) (fun(s4:Int)=>(.unk::(.ptr 0 0::(u32 (u8 (u4 (u2 (.unk::(.slice (List.map aB p0.names) .shared::(.int .i64 (p0.names.length:Int)::(.int .i64 s4::(u16 (u8 []))))))))))))) (fun(s4:Int)=>[.box [.slice (List.map aj p0.carriers) .shared,.slice (List.map aB p0.names) .shared]]) ho2 (fun _=>rfl) (li (.u (.s (.u16 (.u16 (.u8 (.u4 (.u2 (.u (.s (.s (.s (.u16 (.u8 .n)))))))))))))) ?_;intro n2 s4 hs2 KL2 hKL2;unfold lG at hs2;refine .q fun K10 k10=>?_;refine rg 0 ?_
   conv=>whnf
   refine k10 _ _ ?_;refine .q fun K11 k11=>?_;refine .aK rfl hs2 (fun hc2 hs2=>?_) (fun hc2 hs2=>?_)
   ·refine .skip ?_
    conv=>whnf
    refine k11 _ _ ?_;refine .q fun K12 k12=>?_;refine .block ?_;refine .q fun K13 k13=>?_;refine rg 1 ?_
    conv=>whnf
    obtain⟨x3,hx3,hs2⟩:=ob hs2;refine bf (l:=p0.names) (f:=aB) (cs:=[.str ((x3).name),.int .i64 (((x3).ty).kind),.str (((x3).ty).name),.slice (List.map aC (((x3).ty).kids)) .shared]) hx3 (rfl) rfl ?_
    conv=>whnf
    refine k13 _ _ ?_;refine .q fun K14 k14=>?_;obtain⟨s6,hj2,hs2⟩:=ob hs2;have hR4:∀t9 h9,Le 0 t9 h9 (.unk::(.ptr 0 0::(u32 (u8 (u4 (u2 (.unk::(.slice (List.map aB p0.names) .shared::(.int .i64 (p0.names.length:Int)::(.int .i64 s4::(u16 (u2 (.unk::(.bool s6::(u4 []))))))))))))))) [.box [.slice (List.map aj p0.carriers) .shared,.slice (List.map aB p0.names) .shared]]→K14 t9 h9:=by
     intro t9 h9 hw;refine k14 _ _ (AW.le hw ?_);clear hw;refine .aK rfl hs2 (fun hc3 hs2=>?_) (fun hc3 hs2=>?_)
     ·refine .q fun K15 k15=>?_;refine rg 0 ?_
      conv=>whnf
      refine k15 _ _ ?_;refine .ret ?_
      conv=>whnf
      have e9:=sj hs2;subst e9;dsimp only[LR.el]at h;have e9:=sj h;subst e9;refine hQ _ _ _ (aF aL (fun g=>rfl) ?_)
      conv=>whnf
     refine .skip ?_
     conv=>whnf
     refine k12 _ _ ?_;refine .know 51 0 fun hv1=>?_;refine .know 49 0 fun hv2=>?_;refine rg 0 ?_
     conv=>whnf
     refine⟨(s4+1),by have:=fP hv1;have:=mO hv2;have h8:=of_decide_eq_true hc2;exact bT (by omega) (by omega),?_⟩
     conv=>whnf
     exact hKL2 _ _ _ hs2 (li (.u (.s (.u16 (.u16 (.u8 (.u4 (.u2 (.u (.s (.s (.s (.u16 (.u8 .n))))))))))))))
    refine rg 0 ?_
    conv=>whnf
    obtain⟨x4,hx4,hj2⟩:=ob hj2;refine au (O1 _ _ _ hx4) aoR (.cons (.same _) .nil) (fun g=>rfl) (fun g=>rfl) ?_
    conv=>whnf
    refine aD hj2 (fun hc4 hj2=>?_) (fun hc4 hj2=>?_)
    ·conv=>whnf
     cases hj2;exact e5x0 (hR4 _ _)
    conv=>whnf
    obtain⟨x5,hx5,hj2⟩:=ob hj2;refine au (L6 _ _ _ hx5) aoT (.cons (.same _) .nil) (fun g=>by simp) (fun g=>rfl) ?_
    conv=>whnf
    refine aD hj2 (fun hc5 hj2=>?_) (fun hc5 hj2=>?_)
    ·conv=>whnf
     cases hj2;exact e5x0 (hR4 _ _)
    conv=>whnf
    obtain⟨x6,hx6,hj2⟩:=ob hj2;refine au (Px _ _ _ _ hx6) aqD (.cons (.same _) (.cons (.same _) .nil)) (fun g=>by simp) (fun g=>rfl) ?_
    conv=>whnf
    cases hj2;exact e5x0 (hR4 _ _)
   refine .exit ?_
   conv=>whnf
   exact hR3 _ (sj hs2).symm _ _ (li (.u (.s (.u16 (.u16 (.u16 (.u16 (.u8 (.u2 .n)))))))))
  refine .loopS (lC n p0) (fun(s2:Int)=>(.unk::(.ptr 0 0::(u16 (u2 (.slice (List.map aj p0.carriers) .shared::(.int .i64 (p0.carriers.length:Int)::(.int .i64 s2::(u32 (u16 (u4 (.unk::[])))))))))))) (fun(s2:Int)=>[.box [.slice (List.map aj p0.carriers) .shared,.slice (List.map aB p0.names) .shared]]) ho1 (fun _=>rfl) (li (.u (.s (.u16 (.u2 (.s (.s (.s (.u16 (.u16 (.u16 (.u4 (.u .n))))))))))))) ?_;intro n1 s2 hs1 KL1 hKL1;unfold lC at hs1;refine .q fun K16 k16=>?_;refine rg 0 ?_
  conv=>whnf
  refine k16 _ _ ?_;refine .q fun K17 k17=>?_;refine .aK rfl hs1 (fun hc6 hs1=>?_) (fun hc6 hs1=>?_)
  ·refine .skip ?_
   conv=>whnf
   refine k17 _ _ ?_;refine .q fun K18 k18=>?_;refine .block ?_;refine .q fun K19 k19=>?_;refine rg 1 ?_
   conv=>whnf
   obtain⟨x7,hx7,hs1⟩:=ob hs1;refine bf (l:=p0.carriers) (f:=aj) (cs:=[.str ((x7).name),.slice (List.map encS ((x7).elems)) .shared]) hx7 (rfl) rfl ?_
   conv=>whnf
   refine k19 _ _ ?_;refine .q fun K20 k20=>?_;refine .q fun K21 k21=>?_;obtain⟨s7,hj3,hs1⟩:=ob hs1;have hR5:∀t9 h9,Le 0 t9 h9 (.unk::(.ptr 0 0::(u2 (.ptr 1 0::(u8 (u4 (u2 (.unk::(.slice (List.map aj p0.carriers) .shared::(.int .i64 (p0.carriers.length:Int)::(.int .i64 s2::(u8 (u4 (.bool s7::(u32 (u8 [])))))))))))))))) [.box [.slice (List.map aj p0.carriers) .shared,.slice (List.map aB p0.names) .shared],.box [.str x7.name,.slice (List.map encS x7.elems) .shared]]→K21 t9 h9:=by
    intro t9 h9 hw;refine k21 _ _ (AW.le hw ?_);clear hw;refine .aK rfl hs1 (fun hc7 hs1=>?_) (fun hc7 hs1=>?_)
    ·refine .q fun K22 k22=>?_;refine rg 0 ?_
     conv=>whnf
     refine k22 _ _ ?_;refine .ret ?_
     conv=>whnf
     have e9:=sj hs1;subst e9;dsimp only[LR.el]at h;have e9:=sj h;subst e9;refine hQ _ _ _ (aF aL (fun g=>rfl) ?_)
     conv=>whnf
    refine .skip ?_
    conv=>whnf
    refine k20 _ _ ?_;refine .q fun K23 k23=>?_;refine rg 0 ?_
    conv=>whnf
    refine aY (l:=x7.elems) (f:=encS) ?_
    conv=>whnf
    refine k23 _ _ ?_;refine .block ?_;obtain⟨o3,ho3,hs1⟩:=ob hs1;have hR6:∀s9:Unit,o3=.nx s9→∀t9 h9,Le 0 t9 h9 (.unk::(.ptr 0 0::(u16 (u2 (.slice (List.map aj p0.carriers) .shared::(.int .i64 (p0.carriers.length:Int)::(.int .i64 s2::(u32 (u16 (u4 (.unk::[]))))))))))) [.box [.slice (List.map aj p0.carriers) .shared,.slice (List.map aB p0.names) .shared]]→K18 t9 h9:=by
     intro s9 ho;subst ho;dsimp only[LR.el]at hs1;intro t9 h9 hw;refine k18 _ _ (AW.le hw ?_);refine .know 22 0 fun hv3=>?_;refine .know 20 0 fun hv4=>?_;refine rg 0 ?_
     conv=>whnf
     refine⟨(s2+1),by have:=fP hv3;have:=mO hv4;have h8:=of_decide_eq_true hc6;exact bT (by omega) (by omega),?_⟩
     conv=>whnf
     exact hKL1 _ _ _ hs1 (li (.u (.s (.u16 (.u2 (.s (.s (.s (.u16 (.u16 (.u16 (.u4 (.u .n)))))))))))))
    refine .loopS (iY n x7) (fun(s8:Int)=>(.unk::(.ptr 0 0::(u16 (u2 (.slice (List.map aj p0.carriers) .shared::(.int .i64 (p0.carriers.length:Int)::(.int .i64 s2::(u8 (u4 (u2 (.slice (List.map encS x7.elems) .shared::(.int .i64 (x7.elems.length:Int)::(.int .i64 s8::(u32 (u4 [])))))))))))))))) (fun(s8:Int)=>[.box [.slice (List.map aj p0.carriers) .shared,.slice (List.map aB p0.names) .shared]]) ho3 (fun _=>rfl) (wk [some 0] (.u (.c rfl (.u16 (.u2 (.e aJ (.c rfl (.c rfl (.u8 (.u4 (.u2 (.e bS (.c rfl (.c rfl (.u32 (.u4 .nil))))))))))))))) (.b rfl (.e aJ (.e aQ .nil)) .nil) rfl) ?_;intro n3 s8 hs3 KL3 hKL3;unfold iY at hs3;refine .q fun K24 k24=>?_;refine rg 0 ?_
    conv=>whnf
    refine k24 _ _ ?_;refine .q fun K25 k25=>?_;refine .aK rfl hs3 (fun hc8 hs3=>?_) (fun hc8 hs3=>?_)
    ·refine .skip ?_
     conv=>whnf
     refine k25 _ _ ?_;refine .q fun K26 k26=>?_;refine .block ?_;refine .q fun K27 k27=>?_;refine rg 0 ?_
     conv=>whnf
     obtain⟨x8,hx8,hs3⟩:=ob hs3;refine bf (l:=x7.elems) (f:=encS) (cs:=[.str (x8)]) hx8 (rfl) rfl ?_
     conv=>whnf
     refine k27 _ _ ?_;refine .q fun K28 k28=>?_;refine rg 0 ?_
     conv=>whnf
     obtain⟨x9,hx9,hs3⟩:=ob hs3;refine au (uN _ _ _ hx9) UO (.cons (.same _) .nil) (fun g=>rfl) (fun g=>rfl) ?_
     conv=>whnf
     refine k28 _ _ ?_;refine .aK rfl hs3 (fun hc9 hs3=>?_) (fun hc9 hs3=>?_)
     ·refine .q fun K29 k29=>?_;refine rg 0 ?_
      conv=>whnf
      refine k29 _ _ ?_;refine .ret ?_
      conv=>whnf
      have e9:=sj hs3;subst e9;dsimp only[LR.el]at hs1;have e9:=sj hs1;subst e9;dsimp only[LR.el]at h;have e9:=sj h;subst e9;refine hQ _ _ _ (aF aL (fun g=>rfl) ?_)
      conv=>whnf
     refine .skip ?_
     conv=>whnf
     refine k26 _ _ ?_;refine .know 39 0 fun hv5=>?_;refine .know 37 0 fun hv6=>?_;refine rg 0 ?_
     conv=>whnf
     refine⟨(s8+1),by have:=fP hv5;have:=mO hv6;have h8:=of_decide_eq_true hc8;exact bT (by omega) (by omega),?_⟩
     conv=>whnf
     exact hKL3 _ _ _ hs3 (li (.u (.s (.u16 (.u2 (.s (.s (.s (.u8 (.u4 (.u2 (.s (.s (.s (.u16 (.u16 (.u4 .n)))))))))))))))))
    refine .exit ?_
    conv=>whnf
    exact hR6 _ (sj hs3).symm _ _ (li (.u (.s (.u16 (.u2 (.s (.s (.s (.u16 (.u16 (.u16 (.u4 (.u .n)))))))))))))
   refine rg 0 ?_
   conv=>whnf
   obtain⟨x10,hx10,hj3⟩:=ob hj3;refine au (uN _ _ _ hx10) UO (.cons (.same _) .nil) (fun g=>rfl) (fun g=>rfl) ?_
   conv=>whnf
   refine aD hj3 (fun hc10 hj3=>?_) (fun hc10 hj3=>?_)
   ·conv=>whnf
    cases hj3;exact hR5 _ _ (li (.u (.s (.u2 (.s (.u8 (.u4 (.u2 (.u (.s (.s (.s (.u8 (.u4 (.s (.u16 (.u16 (.u8 .n))))))))))))))))))
   conv=>whnf
   refine aY (l:=x7.elems) (f:=encS) ?_
   conv=>whnf
   cases hj3;exact hR5 _ _ (li (.u (.s (.u2 (.s (.u8 (.u4 (.u2 (.u (.s (.s (.s (.u8 (.u4 (.s (.u16 (.u16 (.u8 .n))))))))))))))))))
  refine .exit ?_
  conv=>whnf
  exact hR2 _ (sj hs1).symm _ _ (li (.u (.s (.u16 (.u16 (.u16 (.u16 (.u8 (.u2 .n)))))))))
 refine rg 0 ?_
 conv=>whnf
 refine aY (l:=p0.carriers) (f:=aj) ?_
 conv=>whnf
 refine aD hj1 (fun hc11 hj1=>?_) (fun hc11 hj1=>?_)
 ·conv=>whnf
  cases hj1;exact hR1 _ _ (li (.u (.s (.u16 (.s (.u16 (.u16 (.u16 (.u8 (.u .n))))))))))
 conv=>whnf
 refine aY (l:=p0.names) (f:=aB) ?_
 conv=>whnf
 cases hj1;exact hR1 _ _ (li (.u (.s (.u16 (.s (.u16 (.u16 (.u16 (.u8 (.u .n))))))))))
end
end Abs
end Go.Proofs.YtkopaeklihhdlaaGreat

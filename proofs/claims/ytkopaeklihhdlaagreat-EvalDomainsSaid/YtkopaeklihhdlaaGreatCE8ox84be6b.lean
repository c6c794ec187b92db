/-
  Contracts of Go functions (printed). Conditions: none.
-/
import Derived.KernelRfl
import Derived.Test.YtkopaeklihhdlaaGreatCE6oxda51da
set_option linter.all false
namespace Go.Proofs.YtkopaeklihhdlaaGreat
namespace Abs
open Go Go.Proofs
set_option maxRecDepth 100000
set_option maxHeartbeats 40000000
theorem e8x0{p q:Prop}(f:p→q)(h:p:=by exact wk [] (.u8 (.c rfl (.u64 (.u64 (.u32 (.u8 (.u4 (.u .nil)))))))) .nil rfl):q:=f h
theorem e8x1{p q:Prop}(f:p→q)(h:p:=by exact wk [some 2] (.u4 (.u2 (.c rfl (.u64 (.u64 (.u16 (.u8 (.u2 (.c rfl (.u16 (.u4 .nil))))))))))) (.b rfl (.c rfl (.c rfl (.c rfl (.e aH .nil)))) .nil) rfl):q:=f h
abbrev qbn(qd1:Env→(List Int)→Val→Ty→Option Bool):Prop:=∀(p0:Env) (p1:List Int) (p2:Val) (p3:Ty) (r:Bool),qd1 p0 p1 p2 p3=some r→ak Tryz.prog 45 [.agg [.slice (List.map aj p0.carriers) .shared,.slice (List.map aB p0.names) .shared],.slice (List.map encI p1) .shared,.agg [.int .i64 p2.kind,.int .i64 p2.n,.str p2.name,.slice (List.map ah p2.kids) .shared],.agg [.int .i64 p3.kind,.str p3.name,.slice (List.map aC p3.kids) .shared]] [] (.bool r) []
abbrev qbm(qd2:(List Ty)→Int→Int→Str→(List Val)→(List Carrier)→(List Decl)→(List Int)→Option Bool):Prop:=∀(p0:List Ty) (p1:Int) (p2:Int) (p3:Str) (p4:List Val) (p5:List Carrier) (p6:List Decl) (p7:List Int) (r:Bool),qd2 p0 p1 p2 p3 p4 p5 p6 p7=some r→ak Tryz.prog 97 [.slice (List.map aC p0) .shared,.ptr 0 0,.ptr 1 0,.ptr 2 0] [.box [.int .i64 p1,.int .i64 p2,.str p3,.slice (List.map ah p4) .shared],.box [.slice (List.map aj p5) .shared,.slice (List.map aB p6) .shared],.box [.slice (List.map encI p7) .shared]] (.bool r) [.box [.int .i64 p1,.int .i64 p2,.str p3,.slice (List.map ah p4) .shared],.box [.slice (List.map aj p5) .shared,.slice (List.map aB p6) .shared],.box [.slice (List.map encI p7) .shared]]
theorem TN(n:Nat)(qd1:Env→(List Int)→Val→Ty→Option Bool)(qd2:(List Ty)→Int→Int→Str→(List Val)→(List Carrier)→(List Decl)→(List Int)→Option Bool)(qb5:qbn qd1)(qb6:qbm qd2)(p0:Env)(p1:List Int)(p2:Val)(p3:Ty)(r:Bool)(h:iO n qd1 qd2 p0 p1 p2 p3=some r):ak Tryz.prog 45 [.agg [.slice (List.map aj p0.carriers) .shared,.slice (List.map aB p0.names) .shared],.slice (List.map encI p1) .shared,.agg [.int .i64 p2.kind,.int .i64 p2.n,.str p2.name,.slice (List.map ah p2.kids) .shared],.agg [.int .i64 p3.kind,.str p3.name,.slice (List.map aC p3.kids) .shared]] [] (.bool r) []:=by
 unfold iO at h;refine aA true Tryz.func45 rfl (by rw[Tryz.ntmps45];exact qAa rfl) fun Q hQ t ht=>?_
 conv at ht=>whnf
 subst ht;refine .q fun K1 k1=>?_;refine rg 4 ?_
 conv=>whnf
 refine k1 _ _ ?_;refine .q fun K2 k2=>?_;refine rg 0 ?_
 conv=>whnf
 refine k2 _ _ ?_;refine .q fun K3 k3=>?_;refine .q fun K4 k4=>?_;refine rg 0 ?_
 conv=>whnf
 refine k4 _ _ ?_;refine .block ?_;refine .q fun K5 k5=>?_;refine rg 0 ?_
 conv=>whnf
 refine k5 _ _ ?_;refine .aK rfl h (fun hc1 h=>?_) (fun hc1 h=>?_)
 ·refine .q fun K6 k6=>?_;obtain⟨s1,hj1,h⟩:=ob h;have hR1:∀t9 h9,Le 0 t9 h9 (u8 (.bool s1::(u64 (u64 (u32 (u8 (u4 (.unk::[])))))))) []→K6 t9 h9:=by
   intro t9 h9 hw;refine k6 _ _ (AW.le hw ?_);clear hw;refine .ret ?_
   conv=>whnf
   have e9:=sj h;subst e9;refine hQ _ _ _ (aF aL (fun g=>rfl) ?_)
   conv=>whnf
  refine rg 0 ?_
  conv=>whnf
  refine aD hj1 (fun hc2 hj1=>?_) (fun hc2 hj1=>?_)
  ·conv=>whnf
   refine aD hj1 (fun hc3 hj1=>?_) (fun hc3 hj1=>?_)
   ·conv=>whnf
    refine aD hj1 (fun hc4 hj1=>?_) (fun hc4 hj1=>?_)
    ·conv=>whnf
     refine aD hj1 (fun hc5 hj1=>?_) (fun hc5 hj1=>?_)
     ·conv=>whnf
      refine aY (l:=p2.kids) (f:=ah) ?_
      conv=>whnf
      cases hj1;exact e8x0 (hR1 _ _)
     conv=>whnf
     cases hj1;exact e8x0 (hR1 _ _)
    conv=>whnf
    cases hj1;exact e8x0 (hR1 _ _)
   conv=>whnf
   cases hj1;exact e8x0 (hR1 _ _)
  conv=>whnf
  cases hj1;exact e8x0 (hR1 _ _)
 refine .q fun K7 k7=>?_;refine rg 0 ?_
 conv=>whnf
 refine k7 _ _ ?_;refine .aK rfl h (fun hc6 h=>?_) (fun hc6 h=>?_)
 ·refine .q fun K8 k8=>?_;obtain⟨s2,hj2,h⟩:=ob h;have hR2:∀t9 h9,Le 0 t9 h9 (u8 (.bool s2::(u64 (u64 (u32 (u8 (u4 (.unk::[])))))))) []→K8 t9 h9:=by
   intro t9 h9 hw;refine k8 _ _ (AW.le hw ?_);clear hw;refine .ret ?_
   conv=>whnf
   have e9:=sj h;subst e9;refine hQ _ _ _ (aF aL (fun g=>rfl) ?_)
   conv=>whnf
  refine rg 0 ?_
  conv=>whnf
  refine aD hj2 (fun hc7 hj2=>?_) (fun hc7 hj2=>?_)
  ·conv=>whnf
   refine aD hj2 (fun hc8 hj2=>?_) (fun hc8 hj2=>?_)
   ·conv=>whnf
    refine aD hj2 (fun hc9 hj2=>?_) (fun hc9 hj2=>?_)
    ·conv=>whnf
     refine aY (l:=p2.kids) (f:=ah) ?_
     conv=>whnf
     cases hj2;exact e8x0 (hR2 _ _)
    conv=>whnf
    cases hj2;exact e8x0 (hR2 _ _)
   conv=>whnf
   refine aD hj2 (fun hc10 hj2=>?_) (fun hc10 hj2=>?_)
   ·conv=>whnf
    refine aD hj2 (fun hc11 hj2=>?_) (fun hc11 hj2=>?_)
    ·conv=>whnf
     refine aY (l:=p2.kids) (f:=ah) ?_
     conv=>whnf
     cases hj2;exact e8x0 (hR2 _ _)
    conv=>whnf
    cases hj2;exact e8x0 (hR2 _ _)
   conv=>whnf
   cases hj2;exact e8x0 (hR2 _ _)
  conv=>whnf
  cases hj2;exact e8x0 (hR2 _ _)
 refine .q fun K9 k9=>?_;refine rg 0 ?_
 conv=>whnf
 refine k9 _ _ ?_;refine .aK rfl h (fun hc12 h=>?_) (fun hc12 h=>?_)
 ·refine .q fun K10 k10=>?_;refine rg 0 ?_
  conv=>whnf
  obtain⟨x1,hx1,h⟩:=ob h;refine au (Ar _ _ _ _ hx1) abT (.cons (.same _) (.cons (.same _) .nil)) (fun g=>by simp) (fun g=>rfl) ?_
  conv=>whnf
  refine k10 _ _ ?_;refine .q fun K11 k11=>?_;obtain⟨s3,hj3,h⟩:=ob h;have hR3:∀t9 h9,Le 0 t9 h9 (u8 (.bool s3::(u64 (u64 (u32 (u8 (u4 (.unk::[])))))))) []→K11 t9 h9:=by
   intro t9 h9 hw;refine k11 _ _ (AW.le hw ?_);clear hw;refine .ret ?_
   conv=>whnf
   have e9:=sj h;subst e9;refine hQ _ _ _ (aF aL (fun g=>rfl) ?_)
   conv=>whnf
  refine rg 0 ?_
  conv=>whnf
  refine aD hj3 (fun hc13 hj3=>?_) (fun hc13 hj3=>?_)
  ·conv=>whnf
   refine aD hj3 (fun hc14 hj3=>?_) (fun hc14 hj3=>?_)
   ·conv=>whnf
    refine aD hj3 (fun hc15 hj3=>?_) (fun hc15 hj3=>?_)
    ·conv=>whnf
     refine aD hj3 (fun hc16 hj3=>?_) (fun hc16 hj3=>?_)
     ·conv=>whnf
      obtain⟨x2,hx2,hj3⟩:=ob hj3;refine bf (l:=p1) (f:=encI) (cs:=[.int .i64 (x2)]) hx2 (rfl) rfl ?_
      conv=>whnf
      refine aD hj3 (fun hc17 hj3=>?_) (fun hc17 hj3=>?_)
      ·conv=>whnf
       refine aY (l:=p2.kids) (f:=ah) ?_
       conv=>whnf
       refine⟨by kernel_rfl,?_⟩
       conv=>whnf
       cases hj3;exact e8x0 (hR3 _ _)
      conv=>whnf
      refine⟨by kernel_rfl,?_⟩
      conv=>whnf
      cases hj3;exact e8x0 (hR3 _ _)
     conv=>whnf
     refine⟨by kernel_rfl,?_⟩
     conv=>whnf
     cases hj3;exact e8x0 (hR3 _ _)
    conv=>whnf
    refine⟨by kernel_rfl,?_⟩
    conv=>whnf
    cases hj3;exact e8x0 (hR3 _ _)
   conv=>whnf
   refine⟨by kernel_rfl,?_⟩
   conv=>whnf
   cases hj3;exact e8x0 (hR3 _ _)
  conv=>whnf
  refine⟨by kernel_rfl,?_⟩
  conv=>whnf
  cases hj3;exact e8x0 (hR3 _ _)
 refine .q fun K12 k12=>?_;refine rg 0 ?_
 conv=>whnf
 refine k12 _ _ ?_;refine .aK rfl h (fun hc18 h=>?_) (fun hc18 h=>?_)
 ·refine .q fun K13 k13=>?_;obtain⟨s4,hj4,h⟩:=ob h;have hR4:∀t9 h9,Le 0 t9 h9 (u8 (.bool s4::(u64 (u64 (u32 (u8 (u4 (.unk::[])))))))) []→K13 t9 h9:=by
   intro t9 h9 hw;refine k13 _ _ (AW.le hw ?_);clear hw;refine .ret ?_
   conv=>whnf
   have e9:=sj h;subst e9;refine hQ _ _ _ (aF aL (fun g=>rfl) ?_)
   conv=>whnf
  refine rg 0 ?_
  conv=>whnf
  refine aD hj4 (fun hc19 hj4=>?_) (fun hc19 hj4=>?_)
  ·conv=>whnf
   refine aD hj4 (fun hc20 hj4=>?_) (fun hc20 hj4=>?_)
   ·conv=>whnf
    refine aD hj4 (fun hc21 hj4=>?_) (fun hc21 hj4=>?_)
    ·conv=>whnf
     refine aY (l:=p2.kids) (f:=ah) ?_
     conv=>whnf
     refine aD hj4 (fun hc22 hj4=>?_) (fun hc22 hj4=>?_)
     ·conv=>whnf
      obtain⟨x3,hx3,hj4⟩:=ob hj4;refine dP [2,0,1] [] [.slice (List.map aC p3.kids) .shared,.ptr 0 0,.ptr 1 0,.ptr 2 0] [.slice (List.map aC p3.kids) .shared,.ptr 2 0,.ptr 0 0,.ptr 1 0] (qb6 _ _ _ _ _ _ _ _ _ hx3) ajW rfl (.cons (by simp only[bN,ren,bD,bA,dK,bY,bP,bS,dF,bK,dB,aJ,aQ,aH,aT,aG,aU];try rfl) (.cons (by simp only[bN,ren,bD,bA,dK,bY,bP,bS,dF,bK,dB,aJ,aQ,aH,aT,aG,aU];try rfl) (.cons (by simp only[bN,ren,bD,bA,dK,bY,bP,bS,dF,bK,dB,aJ,aQ,aH,aT,aG,aU];try rfl) .nil))) (by simp;try decide) (.cons (.same _) (.cons (.same _) (.cons (.same _) (.cons (.same _) .nil)))) (rn:=.bool x3) (rfl) (Hn:=[.box [.int .i64 p2.kind,.int .i64 p2.n,.str p2.name,.slice (List.map ah p2.kids) .shared],.box [.slice (List.map aj p0.carriers) .shared,.slice (List.map aB p0.names) .shared],.box [.slice (List.map encI p1) .shared]]) ((fC (by simp only[bN,ren,bD,bA,dK,bY,bP,bS,dF,bK,dB,aJ,aQ,aH,aT,aG,aU];try rfl) (fC (by simp only[bN,ren,bD,bA,dK,bY,bP,bS,dF,bK,dB,aJ,aQ,aH,aT,aG,aU];try rfl) (fC (by simp only[bN,ren,bD,bA,dK,bY,bP,bS,dF,bK,dB,aJ,aQ,aH,aT,aG,aU];try rfl) rfl)))) ?_
      conv=>whnf
      cases hj4;exact e8x0 (hR4 _ _)
     conv=>whnf
     cases hj4;exact e8x0 (hR4 _ _)
    conv=>whnf
    cases hj4;exact e8x0 (hR4 _ _)
   conv=>whnf
   cases hj4;exact e8x0 (hR4 _ _)
  conv=>whnf
  cases hj4;exact e8x0 (hR4 _ _)
 refine .q fun K14 k14=>?_;refine rg 0 ?_
 conv=>whnf
 refine k14 _ _ ?_;refine .aK rfl h (fun hc23 h=>?_) (fun hc23 h=>?_)
 ·refine .q fun K15 k15=>?_;refine .q fun K16 k16=>?_;obtain⟨s5,hj5,h⟩:=ob h;have hR5:∀t9 h9,Le 0 t9 h9 (u4 (u2 (.ptr 0 0::(u64 (u64 (u16 (u8 (u2 (.bool s5::(u16 (u4 []))))))))))) [.box [.int .i64 p2.kind,.int .i64 p2.n,.str p2.name,.slice (List.map ah p2.kids) .shared]]→K16 t9 h9:=by
   intro t9 h9 hw;refine k16 _ _ (AW.le hw ?_);clear hw;refine .aK rfl h (fun hc24 h=>?_) (fun hc24 h=>?_)
   ·refine .q fun K17 k17=>?_;refine rg 0 ?_
    conv=>whnf
    refine k17 _ _ ?_;refine .ret ?_
    conv=>whnf
    have e9:=sj h;subst e9;refine hQ _ _ _ (aF aL (fun g=>rfl) ?_)
    conv=>whnf
   refine .skip ?_
   conv=>whnf
   refine k15 _ _ ?_;refine .q fun K18 k18=>?_;refine .q fun K19 k19=>?_;refine rg 0 ?_
   conv=>whnf
   refine k19 _ _ ?_;refine .block ?_;obtain⟨o1,ho1,h⟩:=ob h;have hR6:∀s7:Unit,o1=.nx s7→∀t9 h9,Le 0 t9 h9 (u64 (u64 (u32 (u16 (u4 (u2 [])))))) []→K18 t9 h9:=by
    intro s7 ho;subst ho;dsimp only[LR.el]at h;intro t9 h9 hw;refine k18 _ _ (AW.le hw ?_);refine .q fun K20 k20=>?_;refine rg 0 ?_
    conv=>whnf
    refine k20 _ _ ?_;refine .ret ?_
    conv=>whnf
    have e9:=sj h;subst e9;refine hQ _ _ _ (aF aL (fun g=>rfl) ?_)
    conv=>whnf
   refine .loopS (qb n qd1 qd2 p2) (fun(s6:Int)=>(u4 (u2 (.ptr 0 0::(u4 (.int .i64 s6::(u64 (u64 (u32 (u8 (u2 []))))))))))) (fun(s6:Int)=>[.box [.int .i64 p2.kind,.int .i64 p2.n,.str p2.name,.slice (List.map ah p2.kids) .shared]]) ho1 (fun _=>rfl) (li (.u4 (.u2 (.s (.u4 (.s (.u16 (.u16 (.u16 (.u16 (.u16 (.u16 (.u16 (.u16 (.u16 (.u16 (.u8 (.u2 .n)))))))))))))))))) ?_;intro n1 s6 hs1 KL1 hKL1;unfold qb at hs1;refine .q fun K21 k21=>?_;refine .q fun K22 k22=>?_;refine rg 0 ?_
   conv=>whnf
   refine aY (l:=p2.kids) (f:=ah) ?_
   conv=>whnf
   refine k22 _ _ ?_;refine .aK rfl hs1 (fun hc25 hs1=>?_) (fun hc25 hs1=>?_)
   ·refine .skip ?_
    conv=>whnf
    refine k21 _ _ ?_;refine .q fun K23 k23=>?_;refine .block ?_;refine .q fun K24 k24=>?_;refine .know 11 0 fun hv1=>?_;refine rg 0 ?_
    conv=>whnf
    refine⟨(IntKind.wrap .i64 (s6 - 1)),rfl,?_⟩
    conv=>whnf
    obtain⟨x4,hx4,hs1⟩:=ob hs1;refine bf (l:=p2.kids) (f:=ah) (cs:=[.int .i64 ((x4).kind),.int .i64 ((x4).n),.str ((x4).name),.slice (List.map ah ((x4).kids)) .shared]) hx4 (aS x4) rfl ?_
    conv=>whnf
    obtain⟨x5,hx5,hs1⟩:=ob hs1;refine bf (l:=p2.kids) (f:=ah) (cs:=[.int .i64 ((x5).kind),.int .i64 ((x5).n),.str ((x5).name),.slice (List.map ah ((x5).kids)) .shared]) hx5 (aS x5) rfl ?_
    conv=>whnf
    obtain⟨x6,hx6,hs1⟩:=ob hs1;refine au (mE _ _ _ _ hx6) EN (.cons (.same _) (.cons (.same _) .nil)) (fun g=>by simp) (fun g=>rfl) ?_
    conv=>whnf
    refine⟨by kernel_rfl,?_⟩
    conv=>whnf
    refine k24 _ _ ?_;refine .aK rfl hs1 (fun hc26 hs1=>?_) (fun hc26 hs1=>?_)
    ·refine .q fun K25 k25=>?_;refine rg 0 ?_
     conv=>whnf
     refine k25 _ _ ?_;refine .ret ?_
     conv=>whnf
     have e9:=sj hs1;subst e9;dsimp only[LR.el]at h;have e9:=sj h;subst e9;refine hQ _ _ _ (aF aL (fun g=>rfl) ?_)
     conv=>whnf
    refine .skip ?_
    conv=>whnf
    refine k23 _ _ ?_;refine .know 11 0 fun hv2=>?_;refine .know 164 0 fun hv3=>?_;refine rg 0 ?_
    conv=>whnf
    refine⟨(s6+1),by have:=fP hv2;have:=mO hv3;have h8:=of_decide_eq_true hc25;exact bT (by omega) (by omega),?_⟩
    conv=>whnf
    exact hKL1 _ _ _ hs1 (li (.u4 (.u2 (.s (.u4 (.s (.u16 (.u16 (.u16 (.u16 (.u16 (.u16 (.u16 (.u16 (.u16 (.u16 (.u8 (.u2 .n))))))))))))))))))
   refine .exit ?_
   conv=>whnf
   exact hR6 _ (sj hs1).symm _ _ (wk [] (.u64 (.u64 (.u32 (.u16 (.u4 (.u2 .nil)))))) .nil rfl)
  refine rg 0 ?_
  conv=>whnf
  refine aD hj5 (fun hc27 hj5=>?_) (fun hc27 hj5=>?_)
  ·conv=>whnf
   cases hj5;exact e8x1 (hR5 _ _)
  conv=>whnf
  refine aD hj5 (fun hc28 hj5=>?_) (fun hc28 hj5=>?_)
  ·conv=>whnf
   cases hj5;exact e8x1 (hR5 _ _)
  conv=>whnf
  refine aD hj5 (fun hc29 hj5=>?_) (fun hc29 hj5=>?_)
  ·conv=>whnf
   cases hj5;exact e8x1 (hR5 _ _)
  conv=>whnf
  refine aY (l:=p2.kids) (f:=ah) ?_
  conv=>whnf
  refine aD hj5 (fun hc30 hj5=>?_) (fun hc30 hj5=>?_)
  ·conv=>whnf
   cases hj5;exact e8x1 (hR5 _ _)
  conv=>whnf
  obtain⟨x7,hx7,hj5⟩:=ob hj5;refine dP [2,0,1] [] [.slice (List.map aC p3.kids) .shared,.ptr 0 0,.ptr 1 0,.ptr 2 0] [.slice (List.map aC p3.kids) .shared,.ptr 2 0,.ptr 0 0,.ptr 1 0] (qb6 _ _ _ _ _ _ _ _ _ hx7) ajW rfl (.cons (by simp only[bN,ren,bD,bA,dK,bY,bP,bS,dF,bK,dB,aJ,aQ,aH,aT,aG,aU];try rfl) (.cons (by simp only[bN,ren,bD,bA,dK,bY,bP,bS,dF,bK,dB,aJ,aQ,aH,aT,aG,aU];try rfl) (.cons (by simp only[bN,ren,bD,bA,dK,bY,bP,bS,dF,bK,dB,aJ,aQ,aH,aT,aG,aU];try rfl) .nil))) (by simp;try decide) (.cons (.same _) (.cons (.same _) (.cons (.same _) (.cons (.same _) .nil)))) (rn:=.bool x7) (rfl) (Hn:=[.box [.int .i64 p2.kind,.int .i64 p2.n,.str p2.name,.slice (List.map ah p2.kids) .shared],.box [.slice (List.map aj p0.carriers) .shared,.slice (List.map aB p0.names) .shared],.box [.slice (List.map encI p1) .shared]]) ((fC (by simp only[bN,ren,bD,bA,dK,bY,bP,bS,dF,bK,dB,aJ,aQ,aH,aT,aG,aU];try rfl) (fC (by simp only[bN,ren,bD,bA,dK,bY,bP,bS,dF,bK,dB,aJ,aQ,aH,aT,aG,aU];try rfl) (fC (by simp only[bN,ren,bD,bA,dK,bY,bP,bS,dF,bK,dB,aJ,aQ,aH,aT,aG,aU];try rfl) rfl)))) ?_
  conv=>whnf
  cases hj5;exact e8x1 (hR5 _ _)
 refine .skip ?_
 conv=>whnf
 refine k3 _ _ ?_;refine .q fun K26 k26=>?_;refine rg 0 ?_
 conv=>whnf
 refine k26 _ _ ?_;refine .ret ?_
 conv=>whnf
 have e9:=sj h;subst e9;refine hQ _ _ _ (aF aL (fun g=>rfl) ?_)
 conv=>whnf
theorem PE(n:Nat)(qd1:Env→(List Int)→Val→Ty→Option Bool)(qd2:(List Ty)→Int→Int→Str→(List Val)→(List Carrier)→(List Decl)→(List Int)→Option Bool)(qb5:qbn qd1)(qb6:qbm qd2)(p0:List Ty)(p1:Int)(p2:Int)(p3:Str)(p4:List Val)(p5:List Carrier)(p6:List Decl)(p7:List Int)(r:Bool)(h:nP n qd1 qd2 p0 p1 p2 p3 p4 p5 p6 p7=some r):ak Tryz.prog 97 [.slice (List.map aC p0) .shared,.ptr 0 0,.ptr 1 0,.ptr 2 0] [.box [.int .i64 p1,.int .i64 p2,.str p3,.slice (List.map ah p4) .shared],.box [.slice (List.map aj p5) .shared,.slice (List.map aB p6) .shared],.box [.slice (List.map encI p7) .shared]] (.bool r) [.box [.int .i64 p1,.int .i64 p2,.str p3,.slice (List.map ah p4) .shared],.box [.slice (List.map aj p5) .shared,.slice (List.map aB p6) .shared],.box [.slice (List.map encI p7) .shared]]:=by
 unfold nP at h;refine aA true Tryz.func97 rfl (by rw[Tryz.ntmps97];exact qAa rfl) fun Q hQ t ht=>?_
 conv at ht=>whnf
 subst ht;refine .q fun K1 k1=>?_;refine rg 0 ?_
 conv=>whnf
 refine k1 _ _ ?_;refine .q fun K2 k2=>?_;refine .q fun K3 k3=>?_;refine rg 0 ?_
 conv=>whnf
 refine aY (l:=p4) (f:=ah) ?_
 conv=>whnf
 refine k3 _ _ ?_;refine .block ?_;obtain⟨o1,ho1,h⟩:=ob h;have hR1:∀s2:Unit,o1=.nx s2→∀t9 h9,Le 3 t9 h9 (u16 (u8 (u4 (u2 [])))) [.box [.int .i64 p1,.int .i64 p2,.str p3,.slice (List.map ah p4) .shared],.box [.slice (List.map aj p5) .shared,.slice (List.map aB p6) .shared],.box [.slice (List.map encI p7) .shared]]→K2 t9 h9:=by
  intro s2 ho;subst ho;dsimp only[LR.el]at h;intro t9 h9 hw;refine k2 _ _ (AW.le hw ?_);refine .q fun K4 k4=>?_;refine rg 0 ?_
  conv=>whnf
  refine k4 _ _ ?_;refine .ret ?_
  conv=>whnf
  have e9:=sj h;subst e9;refine hQ _ _ _ (jf (u4 (.unk::(.bool true::(u16 (u8 []))))) [.box [.int .i64 p1,.int .i64 p2,.str p3,.slice (List.map ah p4) .shared],.box [.slice (List.map aj p5) .shared,.slice (List.map aB p6) .shared],.box [.slice (List.map encI p7) .shared]] (wk [some 0,some 1,some 2] (.u4 (.u (.c rfl (.u16 (.u8 .nil))))) (.b rfl (.c rfl (.c rfl (.c rfl (.e aH .nil)))) (.b rfl (.e aJ (.e aQ .nil)) (.b rfl (.e bP .nil) .nil))) rfl) (dI aL [0,1,2] rfl (.cons (by simp only[bN,ren,bD,bA,dK,bY,bP,bS,dF,bK,dB,aJ,aQ,aH,aT,aG,aU];try rfl) (.cons (by simp only[bN,ren,bD,bA,dK,bY,bP,bS,dF,bK,dB,aJ,aQ,aH,aT,aG,aU];try rfl) (.cons (by simp only[bN,ren,bD,bA,dK,bY,bP,bS,dF,bK,dB,aJ,aQ,aH,aT,aG,aU];try rfl) .nil))) ?_))
  conv=>whnf
  first|rfl|(simp;done)|(simp;rfl)|(simp;and_intros<;>rfl)
 refine .loopS (mP n qd1 qd2 p0 p4 p5 p6 p7) (fun(s1:Int)=>(.slice (List.map aC p0) .shared::(.unk::(.ptr 1 0::(.ptr 2 0::(u4 (.unk::(.slice (List.map ah p4) .shared::(.int .i64 (p4.length:Int)::(.int .i64 s1::(u16 (u2 [])))))))))))) (fun(s1:Int)=>[.box [.int .i64 p1,.int .i64 p2,.str p3,.slice (List.map ah p4) .shared],.box [.slice (List.map aj p5) .shared,.slice (List.map aB p6) .shared],.box [.slice (List.map encI p7) .shared]]) ho1 (fun _=>rfl) (li (.s (.u (.s (.s (.u4 (.u (.s (.s (.s (.u16 (.u2 .n)))))))))))) ?_;intro n1 s1 hs1 KL1 hKL1;unfold mP at hs1;refine .q fun K5 k5=>?_;refine rg 0 ?_
 conv=>whnf
 refine k5 _ _ ?_;refine .q fun K6 k6=>?_;refine .aK rfl hs1 (fun hc1 hs1=>?_) (fun hc1 hs1=>?_)
 ·refine .skip ?_
  conv=>whnf
  refine k6 _ _ ?_;refine .q fun K7 k7=>?_;refine .block ?_;refine .q fun K8 k8=>?_;refine rg 1 ?_
  conv=>whnf
  obtain⟨x1,hx1,hs1⟩:=ob hs1;refine bf (l:=p4) (f:=ah) (cs:=[.int .i64 ((x1).kind),.int .i64 ((x1).n),.str ((x1).name),.slice (List.map ah ((x1).kids)) .shared]) hx1 (aS x1) rfl ?_
  conv=>whnf
  refine k8 _ _ ?_;refine .q fun K9 k9=>?_;refine .know 0 0 fun hv1=>?_;refine rg 0 ?_
  conv=>whnf
  refine aY (l:=p0) (f:=aC) ?_
  conv=>whnf
  refine⟨((p0.length:Int) - 1),by have:=mO hv1;exact bT (by omega) (by omega),?_⟩
  conv=>whnf
  obtain⟨x2,hx2,hs1⟩:=ob hs1;refine bf (l:=p0) (f:=aC) (cs:=[.int .i64 ((x2).kind),.str ((x2).name),.slice (List.map aC ((x2).kids)) .shared]) hx2 (bZ x2) rfl ?_
  conv=>whnf
  obtain⟨x3,hx3,hs1⟩:=ob hs1;refine au (qb5 _ _ _ _ _ hx3) adA (.cons (.same _) (.cons (.same _) (.cons (.same _) (.cons (.same _) .nil)))) (fun g=>by simp) (fun g=>rfl) ?_
  conv=>whnf
  refine⟨by kernel_rfl,?_⟩
  conv=>whnf
  refine k9 _ _ ?_;refine .aK rfl hs1 (fun hc2 hs1=>?_) (fun hc2 hs1=>?_)
  ·refine .q fun K10 k10=>?_;refine rg 0 ?_
   conv=>whnf
   refine k10 _ _ ?_;refine .ret ?_
   conv=>whnf
   have e9:=sj hs1;subst e9;dsimp only[LR.el]at h;have e9:=sj h;subst e9;refine hQ _ _ _ (jf (u4 (.unk::(.bool false::(u16 (u8 []))))) [.box [.int .i64 p1,.int .i64 p2,.str p3,.slice (List.map ah p4) .shared],.box [.slice (List.map aj p5) .shared,.slice (List.map aB p6) .shared],.box [.slice (List.map encI p7) .shared]] (wk [some 0,some 1,some 2] (.u4 (.u (.c rfl (.u16 (.u8 .nil))))) (.b rfl (.c rfl (.c rfl (.c rfl (.e aH .nil)))) (.b rfl (.e aJ (.e aQ .nil)) (.b rfl (.e bP .nil) .nil))) rfl) (dI aL [0,1,2] rfl (.cons (by simp only[bN,ren,bD,bA,dK,bY,bP,bS,dF,bK,dB,aJ,aQ,aH,aT,aG,aU];try rfl) (.cons (by simp only[bN,ren,bD,bA,dK,bY,bP,bS,dF,bK,dB,aJ,aQ,aH,aT,aG,aU];try rfl) (.cons (by simp only[bN,ren,bD,bA,dK,bY,bP,bS,dF,bK,dB,aJ,aQ,aH,aT,aG,aU];try rfl) .nil))) ?_))
   conv=>whnf
   first|rfl|(simp;done)|(simp;rfl)|(simp;and_intros<;>rfl)
  refine .skip ?_
  conv=>whnf
  refine k7 _ _ ?_;refine .know 6 0 fun hv2=>?_;refine .know 9 0 fun hv3=>?_;refine rg 0 ?_
  conv=>whnf
  refine⟨(s1+1),by have:=fP hv2;have:=mO hv3;have h8:=of_decide_eq_true hc1;exact bT (by omega) (by omega),?_⟩
  conv=>whnf
  exact hKL1 _ _ _ hs1 (wk [some 0,some 1,some 2] (.e bK (.u (.c rfl (.c rfl (.u4 (.u (.e aH (.c rfl (.c rfl (.u16 (.u2 .nil))))))))))) (.b rfl (.c rfl (.c rfl (.c rfl (.e aH .nil)))) (.b rfl (.e aJ (.e aQ .nil)) (.b rfl (.e bP .nil) .nil))) rfl)
 refine .exit ?_
 conv=>whnf
 exact hR1 _ (sj hs1).symm _ _ (li (.u16 (.u8 (.u4 (.u2 .n)))))
theorem P8(n:Nat):qbn (iM n)∧qbm (nS n):=by
 induction n with
 |zero=>exact⟨(fun p0 p1 p2 p3 r h=>by unfold iM at h;cases h),(fun p0 p1 p2 p3 p4 p5 p6 p7 r h=>by unfold nS at h;cases h)⟩
 |succ n ih=>
  exact⟨(fun p0 p1 p2 p3 r h=>TN n _ _ ih.1 ih.2 p0 p1 p2 p3 r (by unfold iM at h;exact h)),(fun p0 p1 p2 p3 p4 p5 p6 p7 r h=>PE n _ _ ih.1 ih.2 p0 p1 p2 p3 p4 p5 p6 p7 r (by unfold nS at h;exact h))⟩
theorem SH(n:Nat):qbn (iM n):=(P8 n).1
theorem afp(n:Nat)(p0:Env)(p1:List Int)(p2:Val)(p3:Ty)(r:Bool)(h:AX n p0 p1 p2 p3=some r):ak Tryz.prog 11 [.agg [.slice (List.map aj p0.carriers) .shared,.slice (List.map aB p0.names) .shared],.slice (List.map encI p1) .shared,.agg [.int .i64 p2.kind,.int .i64 p2.n,.str p2.name,.slice (List.map ah p2.kids) .shared],.agg [.int .i64 p3.kind,.str p3.name,.slice (List.map aC p3.kids) .shared]] [] (.bool r) []:=by
 unfold AX at h;refine aA true Tryz.func11 rfl (by rw[Tryz.ntmps11];exact qAa rfl) fun Q hQ t ht=>?_
 conv at ht=>whnf
 subst ht;refine .q fun K1 k1=>?_;refine rg 3 ?_
 conv=>whnf
 refine k1 _ _ ?_;refine .q fun K2 k2=>?_;obtain⟨s1,hj1,h⟩:=ob h;have hR1:∀t9 h9,Le 0 t9 h9 (u8 (.bool s1::(u16 (u2 (.unk::[]))))) []→K2 t9 h9:=by
  intro t9 h9 hw;refine k2 _ _ (AW.le hw ?_);clear hw;refine .ret ?_
  conv=>whnf
  have e9:=sj h;subst e9;refine hQ _ _ _ (aF aL (fun g=>rfl) ?_)
  conv=>whnf
 refine rg 0 ?_
 conv=>whnf
 obtain⟨x1,hx1,hj1⟩:=ob hj1;refine au (yZ _ _ _ hx1) acf (.cons (.same _) .nil) (fun g=>by simp) (fun g=>rfl) ?_
 conv=>whnf
 refine aD hj1 (fun hc1 hj1=>?_) (fun hc1 hj1=>?_)
 ·conv=>whnf
  obtain⟨x2,hx2,hj1⟩:=ob hj1;refine au (Bc _ _ _ _ hx2) ad6 (.cons (.same _) (.cons (.same _) .nil)) (fun g=>by simp) (fun g=>rfl) ?_
  conv=>whnf
  refine aD hj1 (fun hc2 hj1=>?_) (fun hc2 hj1=>?_)
  ·conv=>whnf
   obtain⟨x3,hx3,hj1⟩:=ob hj1;refine au (F6 _ _ _ _ hx3) ad8 (.cons (.same _) (.cons (.same _) .nil)) (fun g=>by simp) (fun g=>rfl) ?_
   conv=>whnf
   refine aD hj1 (fun hc3 hj1=>?_) (fun hc3 hj1=>?_)
   ·conv=>whnf
    obtain⟨x4,hx4,hj1⟩:=ob hj1;refine au (SH _ _ _ _ _ _ hx4) adA (.cons (.same _) (.cons (.same _) (.cons (.same _) (.cons (.same _) .nil)))) (fun g=>by simp) (fun g=>rfl) ?_
    conv=>whnf
    cases hj1;exact hR1 _ _ (wk [] (.u8 (.c rfl (.u16 (.u2 (.u .nil))))) .nil rfl)
   conv=>whnf
   cases hj1;exact hR1 _ _ (wk [] (.u8 (.c rfl (.u16 (.u2 (.u .nil))))) .nil rfl)
  conv=>whnf
  cases hj1;exact hR1 _ _ (wk [] (.u8 (.c rfl (.u16 (.u2 (.u .nil))))) .nil rfl)
 conv=>whnf
 cases hj1;exact hR1 _ _ (wk [] (.u8 (.c rfl (.u16 (.u2 (.u .nil))))) .nil rfl)
theorem QF(n:Nat)(p0:Int)(r:Bool)(h:rO n p0=some r):ak Tryz.prog 133 [.int .u8 p0] [] (.bool r) []:=by
 unfold rO at h;refine aA true Tryz.func133 rfl (by rw[Tryz.ntmps133];exact qAa rfl) fun Q hQ t ht=>?_
 conv at ht=>whnf
 subst ht;refine .q fun K1 k1=>?_;refine rg 0 ?_
 conv=>whnf
 refine k1 _ _ ?_;refine .q fun K2 k2=>?_;obtain⟨s1,hj1,h⟩:=ob h;have hR1:∀t9 h9,Le 0 t9 h9 (u2 (.bool s1::(u8 (u4 (u2 []))))) []→K2 t9 h9:=by
  intro t9 h9 hw;refine k2 _ _ (AW.le hw ?_);clear hw;refine .ret ?_
  conv=>whnf
  have e9:=sj h;subst e9;refine hQ _ _ _ (aF aL (fun g=>rfl) ?_)
  conv=>whnf
 refine rg 0 ?_
 conv=>whnf
 refine aD hj1 (fun hc1 hj1=>?_) (fun hc1 hj1=>?_)
 ·conv=>whnf
  refine aD hj1 (fun hc2 hj1=>?_) (fun hc2 hj1=>?_)
  ·conv=>whnf
   cases hj1;exact hR1 _ _ (li (.u2 (.s (.u8 (.u4 (.u2 .n))))))
  conv=>whnf
  refine aD hj1 (fun hc3 hj1=>?_) (fun hc3 hj1=>?_)
  ·conv=>whnf
   cases hj1;exact hR1 _ _ (li (.u2 (.s (.u8 (.u4 (.u2 .n))))))
  conv=>whnf
  cases hj1;exact hR1 _ _ (li (.u2 (.s (.u8 (.u4 (.u2 .n))))))
 conv=>whnf
 refine aD hj1 (fun hc4 hj1=>?_) (fun hc4 hj1=>?_)
 ·conv=>whnf
  cases hj1;exact hR1 _ _ (li (.u2 (.s (.u8 (.u4 (.u2 .n))))))
 conv=>whnf
 cases hj1;exact hR1 _ _ (li (.u2 (.s (.u8 (.u4 (.u2 .n))))))
theorem adw(n:Nat)(p0:Str)(p1:List Str)(r:Bool)(h:oU n p0 p1=some r):ak Tryz.prog 102 [.str p0,.slice (List.map encS p1) .shared] [] (.bool r) []:=by
 unfold oU at h;refine aA true Tryz.func102 rfl (by rw[Tryz.ntmps102];exact qAa rfl) fun Q hQ t ht=>?_
 conv at ht=>whnf
 subst ht;refine .q fun K1 k1=>?_;refine rg 0 ?_
 conv=>whnf
 refine k1 _ _ ?_;refine .q fun K2 k2=>?_;refine .q fun K3 k3=>?_;refine rg 0 ?_
 conv=>whnf
 refine k3 _ _ ?_;refine .block ?_;obtain⟨o1,ho1,h⟩:=ob h;have hR1:∀s2:Unit,o1=.nx s2→∀t9 h9,Le 0 t9 h9 (u16 (u2 [])) []→K2 t9 h9:=by
  intro s2 ho;subst ho;dsimp only[LR.el]at h;intro t9 h9 hw;refine k2 _ _ (AW.le hw ?_);refine .q fun K4 k4=>?_;refine rg 0 ?_
  conv=>whnf
  refine k4 _ _ ?_;refine .ret ?_
  conv=>whnf
  have e9:=sj h;subst e9;refine hQ _ _ _ (aF aL (fun g=>rfl) ?_)
  conv=>whnf
 refine .loopS (Ig n p0 p1) (fun(s1:Int)=>(.str p0::(.slice (List.map encS p1) .shared::(u2 (.unk::(.int .i64 s1::(u8 (u4 [])))))))) (fun(s1:Int)=>[]) ho1 (fun _=>rfl) (li (.s (.s (.u2 (.u (.s (.u8 (.u4 .n)))))))) ?_;intro n1 s1 hs1 KL1 hKL1;unfold Ig at hs1;refine .q fun K5 k5=>?_;refine .q fun K6 k6=>?_;refine rg 0 ?_
 conv=>whnf
 refine aY (l:=p1) (f:=encS) ?_
 conv=>whnf
 refine k6 _ _ ?_;refine .aK rfl hs1 (fun hc1 hs1=>?_) (fun hc1 hs1=>?_)
 ·refine .skip ?_
  conv=>whnf
  refine k5 _ _ ?_;refine .q fun K7 k7=>?_;refine .block ?_;refine .q fun K8 k8=>?_;refine rg 0 ?_
  conv=>whnf
  obtain⟨x1,hx1,hs1⟩:=ob hs1;refine bf (l:=p1) (f:=encS) (cs:=[.str (x1)]) hx1 (rfl) rfl ?_
  conv=>whnf
  refine k8 _ _ ?_;refine .aK rfl hs1 (fun hc2 hs1=>?_) (fun hc2 hs1=>?_)
  ·refine .q fun K9 k9=>?_;refine rg 0 ?_
   conv=>whnf
   refine k9 _ _ ?_;refine .ret ?_
   conv=>whnf
   have e9:=sj hs1;subst e9;dsimp only[LR.el]at h;have e9:=sj h;subst e9;refine hQ _ _ _ (aF aL (fun g=>rfl) ?_)
   conv=>whnf
  refine .skip ?_
  conv=>whnf
  refine k7 _ _ ?_;refine .know 5 0 fun hv1=>?_;refine .know 1 0 fun hv2=>?_;refine rg 0 ?_
  conv=>whnf
  refine⟨(s1+1),by have:=fP hv1;have:=mO hv2;have h8:=of_decide_eq_true hc1;exact bT (by omega) (by omega),?_⟩
  conv=>whnf
  exact hKL1 _ _ _ hs1 (li (.s (.s (.u2 (.u (.s (.u8 (.u4 .n))))))))
 refine .exit ?_
 conv=>whnf
 exact hR1 _ (sj hs1).symm _ _ (li (.u16 (.u2 .n)))
theorem aaH(n:Nat)(p0:Str)(r:Bool)(h:zD n p0=some r):ak Tryz.prog 134 [.str p0] [] (.bool r) []:=by
 unfold zD at h;refine aA true Tryz.func134 rfl (by rw[Tryz.ntmps134];exact qAa rfl) fun Q hQ t ht=>?_
 conv at ht=>whnf
 subst ht;refine .q fun K1 k1=>?_;refine rg 0 ?_
 conv=>whnf
 refine k1 _ _ ?_;refine .q fun K2 k2=>?_;refine rg 1 ?_
 conv=>whnf
 refine⟨List.map encS ([([116,114,117,101]:Str),([102,97,108,115,101]:Str),([110,111,116]:Str),([111,114]:Str),([102,111,114,97,108,108]:Str),([101,120,105,115,116,115]:Str),([105,110]:Str),([110,111,116,105,110]:Str),([115,117,98]:Str),([109,111,100]:Str),([102,117,110]:Str),([99,97,114,100]:Str),([109,105,110]:Str),([109,97,120]:Str),([100,111,109]:Str),([114,97,110]:Str),([80,79,87]:Str),([105,110,116]:Str),([98,111,111,108]:Str),([115,101,116]:Str),([112,97,105,114]:Str)]),by kernel_rfl,?_⟩
 conv=>whnf
 refine k2 _ _ ?_;refine .q fun K3 k3=>?_;refine rg 0 ?_
 conv=>whnf
 obtain⟨x1,hx1,h⟩:=ob h;refine au (adw _ _ _ _ hx1) afP (.cons (.same _) (.cons (.share _ _) .nil)) (fun g=>by simp) (fun g=>rfl) ?_
 conv=>whnf
 refine k3 _ _ ?_;refine .ret ?_
 conv=>whnf
 have e9:=sj h;subst e9;refine hQ _ _ _ (aF aL (fun g=>rfl) ?_)
 conv=>whnf
theorem afE(n:Nat)(p0:Int)(r:Bool)(h:uP n p0=some r):ak Tryz.prog 135 [.int .u8 p0] [] (.bool r) []:=by
 unfold uP at h;refine aA true Tryz.func135 rfl (by rw[Tryz.ntmps135];exact qAa rfl) fun Q hQ t ht=>?_
 conv at ht=>whnf
 subst ht;refine .q fun K1 k1=>?_;refine rg 0 ?_
 conv=>whnf
 refine k1 _ _ ?_;refine .q fun K2 k2=>?_;obtain⟨s1,hj1,h⟩:=ob h;have hR1:∀t9 h9,Le 0 t9 h9 (u2 (.bool s1::(u4 (u2 [])))) []→K2 t9 h9:=by
  intro t9 h9 hw;refine k2 _ _ (AW.le hw ?_);clear hw;refine .ret ?_
  conv=>whnf
  have e9:=sj h;subst e9;refine hQ _ _ _ (aF aL (fun g=>rfl) ?_)
  conv=>whnf
 refine rg 0 ?_
 conv=>whnf
 refine aD hj1 (fun hc1 hj1=>?_) (fun hc1 hj1=>?_)
 ·conv=>whnf
  cases hj1;exact hR1 _ _ (li (.u2 (.s (.u4 (.u2 .n)))))
 conv=>whnf
 cases hj1;exact hR1 _ _ (li (.u2 (.s (.u4 (.u2 .n)))))
theorem sK(n:Nat)(p0:Str)(r:Bool)(h:gy n p0=some r):ak Tryz.prog 98 [.str p0] [] (.bool r) []:=by
 unfold gy at h;refine aA true Tryz.func98 rfl (by rw[Tryz.ntmps98];exact qAa rfl) fun Q hQ t ht=>?_
 conv at ht=>whnf
 subst ht;refine .q fun K1 k1=>?_;refine rg 0 ?_
 conv=>whnf
 refine k1 _ _ ?_;refine .q fun K2 k2=>?_;refine .q fun K3 k3=>?_;obtain⟨s1,hj1,h⟩:=ob h;have hR1:∀t9 h9,Le 0 t9 h9 (.str p0::(u16 (u4 (.bool s1::(u16 (u8 [])))))) []→K3 t9 h9:=by
  intro t9 h9 hw;refine k3 _ _ (AW.le hw ?_);clear hw;refine .aK rfl h (fun hc1 h=>?_) (fun hc1 h=>?_)
  ·refine .q fun K4 k4=>?_;refine rg 0 ?_
   conv=>whnf
   refine k4 _ _ ?_;refine .ret ?_
   conv=>whnf
   have e9:=sj h;subst e9;refine hQ _ _ _ (aF aL (fun g=>rfl) ?_)
   conv=>whnf
  refine .skip ?_
  conv=>whnf
  refine k2 _ _ ?_;refine .q fun K5 k5=>?_;refine .q fun K6 k6=>?_;refine rg 0 ?_
  conv=>whnf
  refine k6 _ _ ?_;refine .block ?_;obtain⟨o1,ho1,h⟩:=ob h;have hR2:∀s3:Unit,o1=.nx s3→∀t9 h9,Le 0 t9 h9 (u32 (u8 (u4 (u2 [])))) []→K5 t9 h9:=by
   intro s3 ho;subst ho;dsimp only[LR.el]at h;intro t9 h9 hw;refine k5 _ _ (AW.le hw ?_);refine .q fun K7 k7=>?_;refine rg 0 ?_
   conv=>whnf
   refine k7 _ _ ?_;refine .ret ?_
   conv=>whnf
   have e9:=sj h;subst e9;refine hQ _ _ _ (aF aL (fun g=>rfl) ?_)
   conv=>whnf
  refine .loopS (pG n p0) (fun(s2:Int)=>(.str p0::(u2 (.int .i64 s2::(u32 (u8 (u2 []))))))) (fun(s2:Int)=>[]) ho1 (fun _=>rfl) (li (.s (.u2 (.s (.u16 (.u16 (.u8 (.u2 .n)))))))) ?_;intro n1 s2 hs1 KL1 hKL1;unfold pG at hs1;refine .q fun K8 k8=>?_;refine .q fun K9 k9=>?_;refine rg 0 ?_
  conv=>whnf
  refine k9 _ _ ?_;refine .aK rfl hs1 (fun hc2 hs1=>?_) (fun hc2 hs1=>?_)
  ·refine .skip ?_
   conv=>whnf
   refine k8 _ _ ?_;refine .q fun K10 k10=>?_;refine .block ?_;refine .q fun K11 k11=>?_;obtain⟨s4,hj2,hs1⟩:=ob hs1;have hR3:∀t9 h9,Le 0 t9 h9 (.str p0::(u2 (.int .i64 s2::(u32 (u8 (.unk::(.bool s4::[]))))))) []→K11 t9 h9:=by
    intro t9 h9 hw;refine k11 _ _ (AW.le hw ?_);clear hw;refine .aK rfl hs1 (fun hc3 hs1=>?_) (fun hc3 hs1=>?_)
    ·refine .q fun K12 k12=>?_;refine rg 0 ?_
     conv=>whnf
     refine k12 _ _ ?_;refine .ret ?_
     conv=>whnf
     have e9:=sj hs1;subst e9;dsimp only[LR.el]at h;have e9:=sj h;subst e9;refine hQ _ _ _ (aF aL (fun g=>rfl) ?_)
     conv=>whnf
    refine .skip ?_
    conv=>whnf
    refine k10 _ _ ?_;refine .know 3 0 fun hv1=>?_;refine .know 0 0 fun hv2=>?_;refine rg 0 ?_
    conv=>whnf
    refine⟨(s2+1),by have:=fP hv1;have:=vfs hv2;have h8:=of_decide_eq_true hc2;exact bT (by omega) (by omega),?_⟩
    conv=>whnf
    exact hKL1 _ _ _ hs1 (li (.s (.u2 (.s (.u16 (.u16 (.u8 (.u2 .n))))))))
   refine rg 0 ?_
   conv=>whnf
   obtain⟨x1,hx1,hj2⟩:=ob hj2;refine DR hx1 ?_
   conv=>whnf
   obtain⟨x2,hx2,hj2⟩:=ob hj2;refine au (QF _ _ _ hx2) agD (.cons (.same _) .nil) (fun g=>rfl) (fun g=>rfl) ?_
   conv=>whnf
   refine aD hj2 (fun hc4 hj2=>?_) (fun hc4 hj2=>?_)
   ·conv=>whnf
    obtain⟨x3,hx3,hj2⟩:=ob hj2;refine DR hx3 ?_
    conv=>whnf
    obtain⟨x4,hx4,hj2⟩:=ob hj2;refine au (afE _ _ _ hx4) anD (.cons (.same _) .nil) (fun g=>rfl) (fun g=>rfl) ?_
    conv=>whnf
    refine aD hj2 (fun hc5 hj2=>?_) (fun hc5 hj2=>?_)
    ·conv=>whnf
     obtain⟨x5,hx5,hj2⟩:=ob hj2;refine DR hx5 ?_
     conv=>whnf
     cases hj2;exact hR3 _ _ (li (.s (.u2 (.s (.u16 (.u16 (.u8 (.u (.s .n)))))))))
    conv=>whnf
    cases hj2;exact hR3 _ _ (li (.s (.u2 (.s (.u16 (.u16 (.u8 (.u (.s .n)))))))))
   conv=>whnf
   cases hj2;exact hR3 _ _ (li (.s (.u2 (.s (.u16 (.u16 (.u8 (.u (.s .n)))))))))
  refine .exit ?_
  conv=>whnf
  exact hR2 _ (sj hs1).symm _ _ (li (.u16 (.u16 (.u8 (.u4 (.u2 .n))))))
 refine rg 0 ?_
 conv=>whnf
 refine aD hj1 (fun hc6 hj1=>?_) (fun hc6 hj1=>?_)
 ·conv=>whnf
  cases hj1;exact hR1 _ _ (li (.s (.u16 (.u4 (.s (.u16 (.u8 .n)))))))
 conv=>whnf
 refine aD hj1 (fun hc7 hj1=>?_) (fun hc7 hj1=>?_)
 ·conv=>whnf
  cases hj1;exact hR1 _ _ (li (.s (.u16 (.u4 (.s (.u16 (.u8 .n)))))))
 conv=>whnf
 obtain⟨x6,hx6,hj1⟩:=ob hj1;refine DR hx6 ?_
 conv=>whnf
 obtain⟨x7,hx7,hj1⟩:=ob hj1;refine au (QF _ _ _ hx7) agD (.cons (.same _) .nil) (fun g=>rfl) (fun g=>rfl) ?_
 conv=>whnf
 refine aD hj1 (fun hc8 hj1=>?_) (fun hc8 hj1=>?_)
 ·conv=>whnf
  cases hj1;exact hR1 _ _ (li (.s (.u16 (.u4 (.s (.u16 (.u8 .n)))))))
 conv=>whnf
 obtain⟨x8,hx8,hj1⟩:=ob hj1;refine au (aaH _ _ _ hx8) anT (.cons (.same _) .nil) (fun g=>rfl) (fun g=>rfl) ?_
 conv=>whnf
 cases hj1;exact hR1 _ _ (li (.s (.u16 (.u4 (.s (.u16 (.u8 .n)))))))
theorem aez(n:Nat)(p0:Str)(r:Bool)(h:uh n p0=some r):ak Tryz.prog 162 [.str p0] [] (.bool r) []:=by
 unfold uh at h;refine aA true Tryz.func162 rfl (by rw[Tryz.ntmps162];exact qAa rfl) fun Q hQ t ht=>?_
 conv at ht=>whnf
 subst ht;refine .q fun K1 k1=>?_;refine rg 0 ?_
 conv=>whnf
 refine k1 _ _ ?_;refine .q fun K2 k2=>?_;obtain⟨s1,hj1,h⟩:=ob h;have hR1:∀t9 h9,Le 0 t9 h9 (u2 (.bool s1::(u16 (u2 (.unk::[]))))) []→K2 t9 h9:=by
  intro t9 h9 hw;refine k2 _ _ (AW.le hw ?_);clear hw;refine .ret ?_
  conv=>whnf
  have e9:=sj h;subst e9;refine hQ _ _ _ (aF aL (fun g=>rfl) ?_)
  conv=>whnf
 refine .know 0 0 fun hv1=>?_;refine rg 0 ?_
 conv=>whnf
 refine aD hj1 (fun hc1 hj1=>?_) (fun hc1 hj1=>?_)
 ·conv=>whnf
  refine⟨((p0.length:Int) - 1),by have:=vfs hv1;exact bT (by omega) (by omega),?_⟩
  conv=>whnf
  obtain⟨x1,hx1,hj1⟩:=ob hj1;refine DR hx1 ?_
  conv=>whnf
  refine aD hj1 (fun hc2 hj1=>?_) (fun hc2 hj1=>?_)
  ·conv=>whnf
   refine⟨((p0.length:Int) - 1),by have:=vfs hv1;exact bT (by omega) (by omega),?_⟩
   conv=>whnf
   obtain⟨x2,hx2,hj1⟩:=ob hj1;refine abq hx2 (.none _) (.int _ _ _) ?_
   conv=>whnf
   obtain⟨x3,hx3,hj1⟩:=ob hj1;refine au (sK _ _ _ hx3) Pz (.cons (.same _) .nil) (fun g=>rfl) (fun g=>rfl) ?_
   conv=>whnf
   cases hj1;exact hR1 _ _ (li (.u2 (.s (.u16 (.u2 (.u .n))))))
  conv=>whnf
  cases hj1;exact hR1 _ _ (li (.u2 (.s (.u16 (.u2 (.u .n))))))
 conv=>whnf
 cases hj1;exact hR1 _ _ (li (.u2 (.s (.u16 (.u2 (.u .n))))))
theorem aeT(n:Nat)(p0:Str)(r:Bool)(h:wZ n p0=some r):ak Tryz.prog 99 [.str p0] [] (.bool r) []:=by
 unfold wZ at h;refine aA true Tryz.func99 rfl (by rw[Tryz.ntmps99];exact qAa rfl) fun Q hQ t ht=>?_
 conv at ht=>whnf
 subst ht;refine .q fun K1 k1=>?_;refine rg 0 ?_
 conv=>whnf
 refine k1 _ _ ?_;refine .q fun K2 k2=>?_;obtain⟨s1,hj1,h⟩:=ob h;have hR1:∀t9 h9,Le 0 t9 h9 (u2 (.bool s1::(u4 (u2 [])))) []→K2 t9 h9:=by
  intro t9 h9 hw;refine k2 _ _ (AW.le hw ?_);clear hw;refine .ret ?_
  conv=>whnf
  have e9:=sj h;subst e9;refine hQ _ _ _ (aF aL (fun g=>rfl) ?_)
  conv=>whnf
 refine rg 0 ?_
 conv=>whnf
 obtain⟨x1,hx1,hj1⟩:=ob hj1;refine au (sK _ _ _ hx1) Pz (.cons (.same _) .nil) (fun g=>rfl) (fun g=>rfl) ?_
 conv=>whnf
 refine aD hj1 (fun hc1 hj1=>?_) (fun hc1 hj1=>?_)
 ·conv=>whnf
  cases hj1;exact hR1 _ _ (li (.u2 (.s (.u4 (.u2 .n)))))
 conv=>whnf
 obtain⟨x2,hx2,hj1⟩:=ob hj1;refine au (aez _ _ _ hx2) an7 (.cons (.same _) .nil) (fun g=>rfl) (fun g=>rfl) ?_
 conv=>whnf
 cases hj1;exact hR1 _ _ (li (.u2 (.s (.u4 (.u2 .n)))))
end Abs
end Go.Proofs.YtkopaeklihhdlaaGreat

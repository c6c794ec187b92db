/-
  Contracts of Go functions (printed). Conditions: none.
-/
import Derived.KernelRfl
import Derived.Test.YtkopaeklihhdlaaGreatCDzoxad2fc4
import Derived.Test.YtkopaeklihhdlaaGreatCDrnoxacc4d5
set_option linter.all false
namespace Go.Proofs.YtkopaeklihhdlaaGreat
namespace Abs
open Go Go.Proofs
set_option maxRecDepth 100000
set_option maxHeartbeats 40000000
theorem zY(n:Nat)(p0:Ty)(r:Bool)(h:fA n p0=some r):ak Tryz.prog 93 [.agg [.int .i64 p0.kind,.str p0.name,.slice (List.map aC p0.kids) .shared]] [] (.bool r) []:=by
 unfold fA at h;refine aA true Tryz.func93 rfl (by rw[Tryz.ntmps93];exact qAa rfl) fun Q hQ t ht=>?_
 conv at ht=>whnf
 subst ht;refine .q fun K1 k1=>?_;refine rg 1 ?_
 conv=>whnf
 refine k1 _ _ ?_;refine .q fun K2 k2=>?_;refine rg 1 ?_
 conv=>whnf
 refine k2 _ _ ?_;refine .q fun K3 k3=>?_;refine rg 0 ?_
 conv=>whnf
 obtain⟨x1,hx1,h⟩:=ob h;refine dP [1] [] [.ptr 0 0,.agg [.int .i64 p0.kind,.str p0.name,.slice (List.map aC p0.kids) .shared],.int .i64 1,.bool false] [.ptr 1 0,.agg [.int .i64 p0.kind,.str p0.name,.slice (List.map aC p0.kids) .shared],.int .i64 1,.bool false] (IU _ _ _ _ _ _ _ _ hx1) afK rfl (.cons (rfl) .nil) (by simp;try decide) (.cons (.same _) (.cons (.same _) (.cons (.same _) (.cons (.same _) .nil)))) (rn:=.bool x1.1) (rfl) (Hn:=[.box [.int .i64 x1.2,.int .i64 16,.int .i64 6]]) ((fC (rfl) rfl)) ?_
 conv=>whnf
 refine k3 _ _ ?_;refine .ret ?_
 conv=>whnf
 have e9:=sj h;subst e9;refine hQ _ _ _ (aF aL (fun g=>rfl) ?_)
 conv=>whnf
abbrev qe3(qef:(List Ty)→Int→Option Int):Prop:=∀(p0:List Ty) (p1:Int) (r:Int),qef p0 p1=some r→ak Tryz.prog 288 [.slice (List.map aC p0) .shared,.func 206 [.ptr 0 0]] [.box [.int .i64 p1]] (.int .i64 r) [.box [.int .i64 p1]]
abbrev qey(qd9:(List Ty)→Int→Option Bool):Prop:=∀(p0:List Ty) (p1:Int) (r:Bool),qd9 p0 p1=some r→ak Tryz.prog 205 [.slice (List.map aC p0) .shared,.func 206 [.ptr 0 0]] [.box [.int .i64 p1]] (.bool r) [.box [.int .i64 p1]]
abbrev qfd(qen:Ty→Int→Option Bool):Prop:=∀(p0:Ty) (p1:Int) (r:Bool),qen p0 p1=some r→ak Tryz.prog 154 [.agg [.int .i64 p0.kind,.str p0.name,.slice (List.map aC p0.kids) .shared],.int .i64 p1] [] (.bool r) []
abbrev qfc(qeo:Ty→Int→Option Bool):Prop:=∀(p0:Ty) (p1:Int) (r:Bool),qeo p0 p1=some r→ak Tryz.prog 206 [.agg [.int .i64 p0.kind,.str p0.name,.slice (List.map aC p0.kids) .shared],.ptr 0 0] [.box [.int .i64 p1]] (.bool r) [.box [.int .i64 p1]]
theorem BI(n:Nat)(qef:(List Ty)→Int→Option Int)(qd9:(List Ty)→Int→Option Bool)(qen:Ty→Int→Option Bool)(qeo:Ty→Int→Option Bool)(qcb:qe3 qef)(qb9:qey qd9)(qcf:qfd qen)(qcg:qfc qeo)(p0:List Ty)(p1:Int)(r:Int)(h:fH n qef qd9 qen qeo p0 p1=some r):ak Tryz.prog 288 [.slice (List.map aC p0) .shared,.func 206 [.ptr 0 0]] [.box [.int .i64 p1]] (.int .i64 r) [.box [.int .i64 p1]]:=by
 unfold fH at h;refine aA true Tryz.func288 rfl (by rw[Tryz.ntmps288];exact qAa rfl) fun Q hQ t ht=>?_
 conv at ht=>whnf
 subst ht;refine .q fun K1 k1=>?_;refine rg 0 ?_
 conv=>whnf
 refine k1 _ _ ?_;refine .q fun K2 k2=>?_;refine .q fun K3 k3=>?_;refine rg 0 ?_
 conv=>whnf
 refine aY (l:=p0) (f:=aC) ?_
 conv=>whnf
 refine k3 _ _ ?_;refine .block ?_;obtain⟨o1,ho1,h⟩:=ob h;have hR1:∀s2:Unit,o1=.nx s2→∀t9 h9,Le 1 t9 h9 (u16 (u2 (.unk::[]))) [.box [.int .i64 p1]]→K2 t9 h9:=by
  intro s2 ho;subst ho;dsimp only[LR.el]at h;intro t9 h9 hw;refine k2 _ _ (AW.le hw ?_);refine .q fun K4 k4=>?_;refine rg 0 ?_
  conv=>whnf
  refine k4 _ _ ?_;refine .ret ?_
  conv=>whnf
  have e9:=sj h;subst e9;refine hQ _ _ _ (jf (u4 (.int .i64 (-1)::(u8 (u4 (u2 []))))) [.box [.int .i64 p1]] (wk [some 0] (.u4 (.c rfl (.u8 (.u4 (.u2 .nil))))) (.b rfl (.c rfl .nil) .nil) rfl) (dI aL [0] rfl (.cons (rfl) .nil) ?_))
  conv=>whnf
  first|rfl|(simp;done)|(simp;rfl)|(simp;and_intros<;>rfl)
 refine .loopS (gB n qef qd9 qen qeo p0 p1) (fun(s1:Int)=>(.slice (List.map aC p0) .shared::(.func 206 [.ptr 0 0]::(u4 (.unk::(.int .i64 (p0.length:Int)::(.int .i64 s1::(u8 (u2 []))))))))) (fun(s1:Int)=>[.box [.int .i64 p1]]) ho1 (fun _=>rfl) (li (.s (.s (.u4 (.u (.s (.s (.u8 (.u2 .n))))))))) ?_;intro n1 s1 hs1 KL1 hKL1;unfold gB at hs1;refine .q fun K5 k5=>?_;refine rg 0 ?_
 conv=>whnf
 refine k5 _ _ ?_;refine .q fun K6 k6=>?_;refine .aK rfl hs1 (fun hc1 hs1=>?_) (fun hc1 hs1=>?_)
 ·refine .skip ?_
  conv=>whnf
  refine k6 _ _ ?_;refine .q fun K7 k7=>?_;refine .block ?_;refine .q fun K8 k8=>?_;refine rg 0 ?_
  conv=>whnf
  refine k8 _ _ ?_;refine .q fun K9 k9=>?_;refine rg 0 ?_
  conv=>whnf
  obtain⟨x1,hx1,hs1⟩:=ob hs1;refine bf (l:=p0) (f:=aC) (cs:=[.int .i64 ((x1).kind),.str ((x1).name),.slice (List.map aC ((x1).kids)) .shared]) hx1 (bZ x1) rfl ?_
  conv=>whnf
  obtain⟨x2,hx2,hs1⟩:=ob hs1;refine dP [0] [] [.agg [.int .i64 x1.kind,.str x1.name,.slice (List.map aC x1.kids) .shared],.ptr 0 0] [.agg [.int .i64 x1.kind,.str x1.name,.slice (List.map aC x1.kids) .shared],.ptr 0 0] (qcg _ _ _ hx2) ang rfl (.cons (rfl) .nil) (by simp;try decide) (.cons (.same _) (.cons (.same _) .nil)) (rn:=.bool x2) (rfl) (Hn:=[.box [.int .i64 p1]]) ((fC (rfl) rfl)) ?_
  conv=>whnf
  refine k9 _ _ ?_;refine .aK rfl hs1 (fun hc2 hs1=>?_) (fun hc2 hs1=>?_)
  ·refine .q fun K10 k10=>?_;refine rg 0 ?_
   conv=>whnf
   refine k10 _ _ ?_;refine .ret ?_
   conv=>whnf
   have e9:=sj hs1;subst e9;dsimp only[LR.el]at h;have e9:=sj h;subst e9;refine hQ _ _ _ (jf (u4 (.int .i64 s1::(u8 (u4 (u2 []))))) [.box [.int .i64 p1]] (wk [some 0] (.u4 (.c rfl (.u8 (.u4 (.u2 .nil))))) (.b rfl (.c rfl .nil) .nil) rfl) (dI aL [0] rfl (.cons (rfl) .nil) ?_))
   conv=>whnf
   first|rfl|(simp;done)|(simp;rfl)|(simp;and_intros<;>rfl)
  refine .skip ?_
  conv=>whnf
  refine k7 _ _ ?_;refine .know 5 0 fun hv1=>?_;refine .know 0 0 fun hv2=>?_;refine rg 0 ?_
  conv=>whnf
  refine⟨(s1+1),by have:=fP hv1;have:=mO hv2;have h8:=of_decide_eq_true hc1;exact bT (by omega) (by omega),?_⟩
  conv=>whnf
  exact hKL1 _ _ _ hs1 (li (.s (.s (.u4 (.u (.s (.s (.u8 (.u2 .n)))))))))
 refine .exit ?_
 conv=>whnf
 exact hR1 _ (sj hs1).symm _ _ (li (.u16 (.u2 (.u .n))))
theorem zZ(n:Nat)(qef:(List Ty)→Int→Option Int)(qd9:(List Ty)→Int→Option Bool)(qen:Ty→Int→Option Bool)(qeo:Ty→Int→Option Bool)(qcb:qe3 qef)(qb9:qey qd9)(qcf:qfd qen)(qcg:qfc qeo)(p0:List Ty)(p1:Int)(r:Bool)(h:eF n qef qd9 qen qeo p0 p1=some r):ak Tryz.prog 205 [.slice (List.map aC p0) .shared,.func 206 [.ptr 0 0]] [.box [.int .i64 p1]] (.bool r) [.box [.int .i64 p1]]:=by
 unfold eF at h;refine aA true Tryz.func205 rfl (by rw[Tryz.ntmps205];exact qAa rfl) fun Q hQ t ht=>?_
 conv at ht=>whnf
 subst ht;refine .q fun K1 k1=>?_;refine rg 0 ?_
 conv=>whnf
 refine k1 _ _ ?_;refine .q fun K2 k2=>?_;refine rg 0 ?_
 conv=>whnf
 obtain⟨x1,hx1,h⟩:=ob h;refine dP [0] [] [.slice (List.map aC p0) .shared,.func 206 [.ptr 0 0]] [.slice (List.map aC p0) .shared,.func 206 [.ptr 0 0]] (qcb _ _ _ hx1) agt rfl (.cons (rfl) .nil) (by simp;try decide) (.cons (.same _) (.cons (.same _) .nil)) (rn:=.int .i64 x1) (rfl) (Hn:=[.box [.int .i64 p1]]) ((fC (rfl) rfl)) ?_
 conv=>whnf
 refine k2 _ _ ?_;refine .ret ?_
 conv=>whnf
 have e9:=sj h;subst e9;refine hQ _ _ _ (jf (u4 (.bool (decide (0≤x1))::(u4 []))) [.box [.int .i64 p1]] (wk [some 0] (.u4 (.c rfl (.u4 .nil))) (.b rfl (.c rfl .nil) .nil) rfl) (dI aL [0] rfl (.cons (rfl) .nil) ?_))
 conv=>whnf
 first|rfl|(simp;done)|(simp;rfl)|(simp;and_intros<;>rfl)
theorem IW(n:Nat)(qef:(List Ty)→Int→Option Int)(qd9:(List Ty)→Int→Option Bool)(qen:Ty→Int→Option Bool)(qeo:Ty→Int→Option Bool)(qcb:qe3 qef)(qb9:qey qd9)(qcf:qfd qen)(qcg:qfc qeo)(p0:Ty)(p1:Int)(r:Bool)(h:jO n qef qd9 qen qeo p0 p1=some r):ak Tryz.prog 154 [.agg [.int .i64 p0.kind,.str p0.name,.slice (List.map aC p0.kids) .shared],.int .i64 p1] [] (.bool r) []:=by
 unfold jO at h;refine aA true Tryz.func154 rfl (by rw[Tryz.ntmps154];exact qAa rfl) fun Q hQ t ht=>?_
 conv at ht=>whnf
 subst ht;refine .q fun K1 k1=>?_;refine rg 2 ?_
 conv=>whnf
 refine k1 _ _ ?_;refine .q fun K2 k2=>?_;obtain⟨s1,hj1,h⟩:=ob h;have hR1:∀t9 h9,Le 0 t9 h9 (u4 (.bool s1::(u8 (u2 [])))) []→K2 t9 h9:=by
  intro t9 h9 hw;refine k2 _ _ (AW.le hw ?_);clear hw;refine .ret ?_
  conv=>whnf
  have e9:=sj h;subst e9;refine hQ _ _ _ (aF aL (fun g=>rfl) ?_)
  conv=>whnf
 refine rg 0 ?_
 conv=>whnf
 refine aD hj1 (fun hc1 hj1=>?_) (fun hc1 hj1=>?_)
 ·conv=>whnf
  cases hj1;exact hR1 _ _ (wk [] (.u4 (.c rfl (.u8 (.u2 .nil)))) .nil rfl)
 conv=>whnf
 obtain⟨x1,hx1,hj1⟩:=ob hj1;refine dP [1] [] [.slice (List.map aC p0.kids) .shared,.func 206 [.ptr 0 0]] [.slice (List.map aC p0.kids) .shared,.func 206 [.ptr 1 0]] (qb9 _ _ _ hx1) afQ rfl (.cons (rfl) .nil) (by simp;try decide) (.cons (.same _) (.cons (.same _) .nil)) (rn:=.bool x1) (rfl) (Hn:=[.box [.int .i64 p1]]) ((fC (rfl) rfl)) ?_
 conv=>whnf
 cases hj1;exact hR1 _ _ (wk [] (.u4 (.c rfl (.u8 (.u2 .nil)))) .nil rfl)
theorem GH(n:Nat)(qef:(List Ty)→Int→Option Int)(qd9:(List Ty)→Int→Option Bool)(qen:Ty→Int→Option Bool)(qeo:Ty→Int→Option Bool)(qcb:qe3 qef)(qb9:qey qd9)(qcf:qfd qen)(qcg:qfc qeo)(p0:Ty)(p1:Int)(r:Bool)(h:je n qef qd9 qen qeo p0 p1=some r):ak Tryz.prog 206 [.agg [.int .i64 p0.kind,.str p0.name,.slice (List.map aC p0.kids) .shared],.ptr 0 0] [.box [.int .i64 p1]] (.bool r) [.box [.int .i64 p1]]:=by
 unfold je at h;refine aA true Tryz.func206 rfl (by rw[Tryz.ntmps206];exact qAa rfl) fun Q hQ t ht=>?_
 conv at ht=>whnf
 subst ht;refine .q fun K1 k1=>?_;refine rg 1 ?_
 conv=>whnf
 refine k1 _ _ ?_;refine .q fun K2 k2=>?_;refine rg 0 ?_
 conv=>whnf
 obtain⟨x1,hx1,h⟩:=ob h;refine au (qcf _ _ _ hx1) afI (.cons (.same _) (.cons (.same _) .nil)) (fun g=>by simp) (fun g=>rfl) ?_
 conv=>whnf
 refine k2 _ _ ?_;refine .ret ?_
 conv=>whnf
 have e9:=sj h;subst e9;refine hQ _ _ _ (jf (u2 (.unk::(.bool x1::(u2 (.unk::[]))))) [.box [.int .i64 p1]] (wk [some 0] (.u2 (.u (.c rfl (.u2 (.u .nil))))) (.b rfl (.c rfl .nil) .nil) rfl) (dI aL [0] rfl (.cons (rfl) .nil) ?_))
 conv=>whnf
 first|rfl|(simp;done)|(simp;rfl)|(simp;and_intros<;>rfl)
theorem mD(n:Nat):qe3 (cZ n)∧qey (bM n)∧qfd (dN n)∧qfc (dR n):=by
 induction n with
 |zero=>exact⟨(fun p0 p1 r h=>by unfold cZ at h;cases h),(fun p0 p1 r h=>by unfold bM at h;cases h),(fun p0 p1 r h=>by unfold dN at h;cases h),(fun p0 p1 r h=>by unfold dR at h;cases h)⟩
 |succ n ih=>
  exact⟨(fun p0 p1 r h=>BI n _ _ _ _ ih.1 ih.2.1 ih.2.2.1 ih.2.2.2 p0 p1 r (by unfold cZ at h;exact h)),(fun p0 p1 r h=>zZ n _ _ _ _ ih.1 ih.2.1 ih.2.2.1 ih.2.2.2 p0 p1 r (by unfold bM at h;exact h)),(fun p0 p1 r h=>IW n _ _ _ _ ih.1 ih.2.1 ih.2.2.1 ih.2.2.2 p0 p1 r (by unfold dN at h;exact h)),(fun p0 p1 r h=>GH n _ _ _ _ ih.1 ih.2.1 ih.2.2.1 ih.2.2.2 p0 p1 r (by unfold dR at h;exact h))⟩
theorem Pt(n:Nat):qfd (dN n):=(mD n).2.2.1
theorem L6(n:Nat)(p0:Ty)(r:Bool)(h:gN n p0=some r):ak Tryz.prog 89 [.agg [.int .i64 p0.kind,.str p0.name,.slice (List.map aC p0.kids) .shared]] [] (.bool r) []:=by
 unfold gN at h;refine aA true Tryz.func89 rfl (by rw[Tryz.ntmps89];exact qAa rfl) fun Q hQ t ht=>?_
 conv at ht=>whnf
 subst ht;refine .q fun K1 k1=>?_;refine rg 1 ?_
 conv=>whnf
 refine k1 _ _ ?_;refine .q fun K2 k2=>?_;obtain⟨s1,hj1,h⟩:=ob h;have hR1:∀t9 h9,Le 0 t9 h9 (u2 (.bool s1::(u4 (u2 (.unk::[]))))) []→K2 t9 h9:=by
  intro t9 h9 hw;refine k2 _ _ (AW.le hw ?_);clear hw;refine .ret ?_
  conv=>whnf
  have e9:=sj h;subst e9;refine hQ _ _ _ (aF aL (fun g=>rfl) ?_)
  conv=>whnf
 refine rg 0 ?_
 conv=>whnf
 obtain⟨x1,hx1,hj1⟩:=ob hj1;refine au (zY _ _ _ hx1) acs (.cons (.same _) .nil) (fun g=>by simp) (fun g=>rfl) ?_
 conv=>whnf
 refine aD hj1 (fun hc1 hj1=>?_) (fun hc1 hj1=>?_)
 ·conv=>whnf
  obtain⟨x2,hx2,hj1⟩:=ob hj1;refine au (Pt _ _ _ _ hx2) afI (.cons (.same _) (.cons (.same _) .nil)) (fun g=>by simp) (fun g=>rfl) ?_
  conv=>whnf
  cases hj1;exact hR1 _ _ (wk [] (.u2 (.c rfl (.u4 (.u2 (.u .nil))))) .nil rfl)
 conv=>whnf
 cases hj1;exact hR1 _ _ (wk [] (.u2 (.c rfl (.u4 (.u2 (.u .nil))))) .nil rfl)
abbrev qfb(qem:Ty→(List (Str×Bool))→Option (List (Str×Bool))):Prop:=∀(p0:Ty) (p1:List (Str×Bool)) (r:List (Str×Bool)),qem p0 p1=some r→ak Tryz.prog 159 [.agg [.int .i64 p0.kind,.str p0.name,.slice (List.map aC p0.kids) .shared],.mapr 0] [.mp (List.map (fun p=>(p.1,(fun(x:Bool)=>.bool x) p.2)) p1)] (.tup []) [.mp (List.map (fun p=>(p.1,(fun(x:Bool)=>.bool x) p.2)) r)]
theorem JX(n:Nat)(qem:Ty→(List (Str×Bool))→Option (List (Str×Bool)))(qce:qfb qem)(p0:Ty)(p1:List (Str×Bool))(r:List (Str×Bool))(h:kE n qem p0 p1=some r):ak Tryz.prog 159 [.agg [.int .i64 p0.kind,.str p0.name,.slice (List.map aC p0.kids) .shared],.mapr 0] [.mp (List.map (fun p=>(p.1,(fun(x:Bool)=>.bool x) p.2)) p1)] (.tup []) [.mp (List.map (fun p=>(p.1,(fun(x:Bool)=>.bool x) p.2)) r)]:=by
 unfold kE at h;refine aA true Tryz.func159 rfl (by rw[Tryz.ntmps159];exact qAa rfl) fun Q hQ t ht=>?_
 conv at ht=>whnf
 subst ht;refine .q fun K1 k1=>?_;refine rg 1 ?_
 conv=>whnf
 refine k1 _ _ ?_;refine .q fun K2 k2=>?_;obtain⟨s1,hj1,h⟩:=ob h;have hR1:∀t9 h9,Le 1 t9 h9 (.unk::(.mapr 0::(.ptr 1 0::(u16 (u4 []))))) [.mp (List.map (fun p=>(p.1,(fun(x:Bool)=>.bool x) p.2)) s1),.box [.int .i64 p0.kind,.str p0.name,.slice (List.map aC p0.kids) .shared]]→K2 t9 h9:=by
  intro t9 h9 hw;refine k2 _ _ (AW.le hw ?_);clear hw;refine .q fun K3 k3=>?_;refine rg 0 ?_
  conv=>whnf
  refine aY (l:=p0.kids) (f:=aC) ?_
  conv=>whnf
  refine k3 _ _ ?_;refine .block ?_;obtain⟨o1,ho1,h⟩:=ob h;have hR2:∀s3:List (Str×Bool),o1=.nx s3→∀t9 h9,Le 1 t9 h9 (u16 (u4 (u2 (.unk::[])))) [.mp (List.map (fun p=>(p.1,(fun(x:Bool)=>.bool x) p.2)) s3)]→Q .normal t9 h9:=by
   intro s3 ho;subst ho;dsimp only[LR.el]at h;intro t9 h9 hw;have e9:=sj h;subst e9;refine hQ _ _ _ (jf (u16 (u4 (u2 (.unk::[])))) [.mp (List.map (fun p=>(p.1,(fun(x:Bool)=>.bool x) p.2)) s3)] (hw.trans (wk [some 0] (.u16 (.u4 (.u2 (.u .nil)))) (.old (.same rfl (congrArg AObj.mp (Dz (f:=(fun(x:Bool)=>.bool x)) (fun g x=>rfl) _ _))) .nil) rfl)) (dI aL [0] rfl (.cons (congrArg AObj.mp (Dz (f:=(fun(x:Bool)=>.bool x)) (fun g x=>rfl) _ _)) .nil) ?_))
   conv=>whnf
   first|rfl|(simp;done)|(simp;rfl)|(simp;and_intros<;>rfl)
  refine .loopS (ku n qem p0) (fun(s2:Int×(List (Str×Bool)))=>(.unk::(.mapr 0::(u8 (u2 (.unk::(.slice (List.map aC p0.kids) .shared::(.int .i64 (p0.kids.length:Int)::(.int .i64 s2.1::(u4 (u2 (.unk::[])))))))))))) (fun(s2:Int×(List (Str×Bool)))=>[.mp (List.map (fun p=>(p.1,(fun(x:Bool)=>.bool x) p.2)) s2.2)]) ho1 (fun _=>rfl) (wk [some 0] (.u (.c rfl (.u8 (.u2 (.u (.e bK (.c rfl (.c rfl (.u4 (.u2 (.u .nil))))))))))) (.old (.same rfl (congrArg AObj.mp (Dz (f:=(fun(x:Bool)=>.bool x)) (fun g x=>rfl) _ _))) .nil) rfl) ?_;intro n1 s2 hs1 KL1 hKL1;unfold ku at hs1;refine .q fun K4 k4=>?_;refine rg 0 ?_
  conv=>whnf
  refine k4 _ _ ?_;refine .q fun K5 k5=>?_;refine .aK rfl hs1 (fun hc1 hs1=>?_) (fun hc1 hs1=>?_)
  ·refine .skip ?_
   conv=>whnf
   refine k5 _ _ ?_;refine .q fun K6 k6=>?_;refine .block ?_;refine .q fun K7 k7=>?_;refine rg 1 ?_
   conv=>whnf
   obtain⟨x1,hx1,hs1⟩:=ob hs1;refine bf (l:=p0.kids) (f:=aC) (cs:=[.int .i64 ((x1).kind),.str ((x1).name),.slice (List.map aC ((x1).kids)) .shared]) hx1 (bZ x1) rfl ?_
   conv=>whnf
   refine k7 _ _ ?_;refine rg 0 ?_
   conv=>whnf
   obtain⟨x2,hx2,hs1⟩:=ob hs1;refine dP [0] [] [.agg [.int .i64 x1.kind,.str x1.name,.slice (List.map aC x1.kids) .shared],.mapr 0] [.agg [.int .i64 x1.kind,.str x1.name,.slice (List.map aC x1.kids) .shared],.mapr 0] (qce _ _ _ hx2) afX rfl (.cons (congrArg AObj.mp (Dz (f:=(fun(x:Bool)=>.bool x)) (fun g x=>rfl) _ _)) .nil) (by simp;try decide) (.cons (.same _) (.cons (.same _) .nil)) (rn:=.tup []) (rfl) (Hn:=[.mp (List.map (fun p=>(p.1,(fun(x:Bool)=>.bool x) p.2)) x2)]) ((fC (congrArg AObj.mp (Dz (f:=(fun(x:Bool)=>.bool x)) (fun g x=>rfl) _ _)) rfl)) ?_
   conv=>whnf
   refine k6 _ _ ?_;refine .know 15 0 fun hv1=>?_;refine .know 13 0 fun hv2=>?_;refine rg 0 ?_
   conv=>whnf
   refine⟨(s2.1+1),by have:=fP hv1;have:=mO hv2;have h8:=of_decide_eq_true hc1;exact bT (by omega) (by omega),?_⟩
   conv=>whnf
   exact hKL1 _ _ _ hs1 (wk [some 0] (.u (.c rfl (.u8 (.u2 (.u (.e bK (.c rfl (.c rfl (.u4 (.u2 (.u .nil))))))))))) (.old (.same rfl (congrArg AObj.mp (Dz (f:=(fun(x:Bool)=>.bool x)) (fun g x=>rfl) _ _))) .nil) rfl)
  refine .exit ?_
  conv=>whnf
  exact hR2 _ (sj hs1).symm _ _ (li (.u16 (.u4 (.u2 (.u .n)))))
 refine .q fun K8 k8=>?_;refine rg 0 ?_
 conv=>whnf
 refine k8 _ _ ?_;refine .aK rfl hj1 (fun hc2 hj1=>?_) (fun hc2 hj1=>?_)
 ·refine rg 0 ?_
  conv=>whnf
  obtain⟨x3,hx3,hj1⟩:=ob hj1;refine aiT (m:=p1) (f:=(fun(x:Bool)=>.bool x)) hx3 rfl ?_
  conv=>whnf
  cases hj1;exact hR1 _ _ (li (.u (.s (.s (.u16 (.u4 .n))))))
 refine .skip ?_
 conv=>whnf
 cases hj1;exact hR1 _ _ (li (.u (.s (.s (.u16 (.u4 .n))))))
theorem OQ(n:Nat):qfb (ig n):=by
 induction n with
 |zero=>exact(fun p0 p1 r h=>by unfold ig at h;cases h)
 |succ n ih=>
  exact(fun p0 p1 r h=>JX n _ ih p0 p1 r (by unfold ig at h;exact h))
theorem Rt(n:Nat):qfb (ig n):=(OQ n)
theorem EO(n:Nat)(p0:Ty)(r:List Str)(h:iU n p0=some r):ak Tryz.prog 95 [.agg [.int .i64 p0.kind,.str p0.name,.slice (List.map aC p0.kids) .shared]] [] (.slice (List.map encS r) .shared) []:=by
 unfold iU at h;refine aA true Tryz.func95 rfl (by rw[Tryz.ntmps95];exact qAa rfl) fun Q hQ t ht=>?_
 conv at ht=>whnf
 subst ht;refine .q fun K1 k1=>?_;refine rg 1 ?_
 conv=>whnf
 refine k1 _ _ ?_;refine .q fun K2 k2=>?_;refine .q fun K3 k3=>?_;refine rg 0 ?_
 conv=>whnf
 obtain⟨x1,hx1,h⟩:=ob h;refine au (zY _ _ _ hx1) acs (.cons (.same _) .nil) (fun g=>by simp) (fun g=>rfl) ?_
 conv=>whnf
 refine k3 _ _ ?_;refine .aK rfl h (fun hc1 h=>?_) (fun hc1 h=>?_)
 ·refine .q fun K4 k4=>?_;refine rg 0 ?_
  conv=>whnf
  refine k4 _ _ ?_;refine .ret ?_
  conv=>whnf
  have e9:=sj h;subst e9;refine hQ _ _ _ (aF aL (fun g=>by simp) ?_)
  conv=>whnf
  try rfl
 refine .skip ?_
 conv=>whnf
 refine k2 _ _ ?_;refine .q fun K5 k5=>?_;refine rg 1 ?_
 conv=>whnf
 refine k5 _ _ ?_;refine .q fun K6 k6=>?_;refine rg 0 ?_
 conv=>whnf
 obtain⟨x2,hx2,h⟩:=ob h;refine dP [1] [] [.agg [.int .i64 p0.kind,.str p0.name,.slice (List.map aC p0.kids) .shared],.mapr 0] [.agg [.int .i64 p0.kind,.str p0.name,.slice (List.map aC p0.kids) .shared],.mapr 1] (Rt _ _ _ _ hx2) afX rfl (.cons (congrArg AObj.mp (Dz (f:=(fun(x:Bool)=>.bool x)) (fun g x=>rfl) _ _)) .nil) (by simp;try decide) (.cons (.same _) (.cons (.same _) .nil)) (rn:=.tup []) (rfl) (Hn:=[.mp (List.map (fun p=>(p.1,(fun(x:Bool)=>.bool x) p.2)) x2)]) ((fC (congrArg AObj.mp (Dz (f:=(fun(x:Bool)=>.bool x)) (fun g x=>rfl) _ _)) rfl)) ?_
 conv=>whnf
 refine k6 _ _ ?_;refine .q fun K7 k7=>?_;refine rg 1 ?_
 conv=>whnf
 refine dP [1] [2] [.mapr 0] [.mapr 1] (RL 0 x2 _ rfl) am3 rfl (.cons (congrArg AObj.mp (Dz (f:=(fun(x:Bool)=>.bool x)) (fun g x=>rfl) _ _)) .nil) (by simp;try decide) (.cons (.same _) .nil) (rn:=.func 212 [.ptr 2 0]) (by simp;try decide) (Hn:=[.mp (List.map (fun p=>(p.1,(fun(x:Bool)=>.bool x) p.2)) x2),.box [.mapr 1]]) ((fC (congrArg AObj.mp (Dz (f:=(fun(x:Bool)=>.bool x)) (fun g x=>rfl) _ _)) (fC rfl rfl))) ?_
 conv=>whnf
 obtain⟨x3,hx3,h⟩:=ob h;refine dP [1,2] [] [.func 212 [.ptr 1 0]] [.func 212 [.ptr 2 0]] (I4 _ _ _ hx3) anS rfl (.cons (congrArg AObj.mp (Dz (f:=(fun(x:Bool)=>.bool x)) (fun g x=>rfl) _ _)) (.cons rfl .nil)) (by simp;try decide) (.cons (.same _) .nil) (rn:=.slice (List.map encS x3) .shared) (by simp;try decide) (Hn:=[.mp (List.map (fun p=>(p.1,(fun(x:Bool)=>.bool x) p.2)) x2),.box [.mapr 1]]) ((fC (congrArg AObj.mp (Dz (f:=(fun(x:Bool)=>.bool x)) (fun g x=>rfl) _ _)) (fC rfl rfl))) ?_
 conv=>whnf
 refine k7 _ _ ?_;refine .ret ?_
 conv=>whnf
 have e9:=sj h;subst e9;refine hQ _ _ _ (aF aL (fun g=>by simp) ?_)
 conv=>whnf
 try rfl
theorem JZ(n:Nat)(p0:Carrier)(p1:Str)(r:Bool)(h:yw n p0 p1=some r):ak Tryz.prog 208 [.agg [.str p0.name,.slice (List.map encS p0.elems) .shared],.ptr 0 0] [.box [.str p1]] (.bool r) [.box [.str p1]]:=by
 unfold yw at h;refine aA true Tryz.func208 rfl (by rw[Tryz.ntmps208];exact qAa rfl) fun Q hQ t ht=>?_
 conv at ht=>whnf
 subst ht;refine .q fun K1 k1=>?_;refine rg 1 ?_
 conv=>whnf
 refine k1 _ _ ?_;refine .q fun K2 k2=>?_;refine rg 0 ?_
 conv=>whnf
 refine k2 _ _ ?_;refine .ret ?_
 conv=>whnf
 have e9:=sj h;subst e9;refine hQ _ _ _ (jf (u2 (.unk::(.bool (p0.name==p1)::(u4 [])))) [.box [.str p1]] (wk [some 0] (.u2 (.u (.c rfl (.u4 .nil)))) (.b rfl (.c rfl .nil) .nil) rfl) (dI aL [0] rfl (.cons (rfl) .nil) ?_))
 conv=>whnf
 first|rfl|(simp;done)|(simp;rfl)|(simp;and_intros<;>rfl)
theorem Fj(n:Nat)(p0:List Carrier)(p1:Str)(r:Int)(h:jy n p0 p1=some r):ak Tryz.prog 119 [.slice (List.map aj p0) .shared,.func 208 [.ptr 0 0]] [.box [.str p1]] (.int .i64 r) [.box [.str p1]]:=by
 unfold jy at h;refine aA true Tryz.func119 rfl (by rw[Tryz.ntmps119];exact qAa rfl) fun Q hQ t ht=>?_
 conv at ht=>whnf
 subst ht;refine .q fun K1 k1=>?_;refine rg 0 ?_
 conv=>whnf
 refine k1 _ _ ?_;refine .q fun K2 k2=>?_;refine .q fun K3 k3=>?_;refine rg 0 ?_
 conv=>whnf
 refine aY (l:=p0) (f:=aj) ?_
 conv=>whnf
 refine k3 _ _ ?_;refine .block ?_;obtain⟨o1,ho1,h⟩:=ob h;have hR1:∀s2:Unit,o1=.nx s2→∀t9 h9,Le 1 t9 h9 (u16 (u2 (.unk::[]))) [.box [.str p1]]→K2 t9 h9:=by
  intro s2 ho;subst ho;dsimp only[LR.el]at h;intro t9 h9 hw;refine k2 _ _ (AW.le hw ?_);refine .q fun K4 k4=>?_;refine rg 0 ?_
  conv=>whnf
  refine k4 _ _ ?_;refine .ret ?_
  conv=>whnf
  have e9:=sj h;subst e9;refine hQ _ _ _ (jf (u4 (.int .i64 (-1)::(u8 (u4 (u2 []))))) [.box [.str p1]] (wk [some 0] (.u4 (.c rfl (.u8 (.u4 (.u2 .nil))))) (.b rfl (.c rfl .nil) .nil) rfl) (dI aL [0] rfl (.cons (rfl) .nil) ?_))
  conv=>whnf
  first|rfl|(simp;done)|(simp;rfl)|(simp;and_intros<;>rfl)
 refine .loopS (fO n p0 p1) (fun(s1:Int)=>(.slice (List.map aj p0) .shared::(.func 208 [.ptr 0 0]::(u4 (.unk::(.int .i64 (p0.length:Int)::(.int .i64 s1::(u8 (u2 []))))))))) (fun(s1:Int)=>[.box [.str p1]]) ho1 (fun _=>rfl) (li (.s (.s (.u4 (.u (.s (.s (.u8 (.u2 .n))))))))) ?_;intro n1 s1 hs1 KL1 hKL1;unfold fO at hs1;refine .q fun K5 k5=>?_;refine rg 0 ?_
 conv=>whnf
 refine k5 _ _ ?_;refine .q fun K6 k6=>?_;refine .aK rfl hs1 (fun hc1 hs1=>?_) (fun hc1 hs1=>?_)
 ·refine .skip ?_
  conv=>whnf
  refine k6 _ _ ?_;refine .q fun K7 k7=>?_;refine .block ?_;refine .q fun K8 k8=>?_;refine rg 0 ?_
  conv=>whnf
  refine k8 _ _ ?_;refine .q fun K9 k9=>?_;refine rg 0 ?_
  conv=>whnf
  obtain⟨x1,hx1,hs1⟩:=ob hs1;refine bf (l:=p0) (f:=aj) (cs:=[.str ((x1).name),.slice (List.map encS ((x1).elems)) .shared]) hx1 (rfl) rfl ?_
  conv=>whnf
  refine dP [0] [] [.agg [.str x1.name,.slice (List.map encS x1.elems) .shared],.ptr 0 0] [.agg [.str x1.name,.slice (List.map encS x1.elems) .shared],.ptr 0 0] (JZ 0 x1 p1 _ rfl) anf rfl (.cons (rfl) .nil) (by simp;try decide) (.cons (.same _) (.cons (.same _) .nil)) (rn:=.bool (x1.name==p1)) (rfl) (Hn:=[.box [.str p1]]) ((fC (rfl) rfl)) ?_
  conv=>whnf
  refine k9 _ _ ?_;refine .aK rfl hs1 (fun hc2 hs1=>?_) (fun hc2 hs1=>?_)
  ·refine .q fun K10 k10=>?_;refine rg 0 ?_
   conv=>whnf
   refine k10 _ _ ?_;refine .ret ?_
   conv=>whnf
   have e9:=sj hs1;subst e9;dsimp only[LR.el]at h;have e9:=sj h;subst e9;refine hQ _ _ _ (jf (u4 (.int .i64 s1::(u8 (u4 (u2 []))))) [.box [.str p1]] (wk [some 0] (.u4 (.c rfl (.u8 (.u4 (.u2 .nil))))) (.b rfl (.c rfl .nil) .nil) rfl) (dI aL [0] rfl (.cons (rfl) .nil) ?_))
   conv=>whnf
   first|rfl|(simp;done)|(simp;rfl)|(simp;and_intros<;>rfl)
  refine .skip ?_
  conv=>whnf
  refine k7 _ _ ?_;refine .know 5 0 fun hv1=>?_;refine .know 0 0 fun hv2=>?_;refine rg 0 ?_
  conv=>whnf
  refine⟨(s1+1),by have:=fP hv1;have:=mO hv2;have h8:=of_decide_eq_true hc1;exact bT (by omega) (by omega),?_⟩
  conv=>whnf
  exact hKL1 _ _ _ hs1 (li (.s (.s (.u4 (.u (.s (.s (.u8 (.u2 .n)))))))))
 refine .exit ?_
 conv=>whnf
 exact hR1 _ (sj hs1).symm _ _ (li (.u16 (.u2 (.u .n))))
theorem Cb(n:Nat)(p0:List Carrier)(p1:Str)(r:Bool)(h:iJ n p0 p1=some r):ak Tryz.prog 207 [.slice (List.map aj p0) .shared,.func 208 [.ptr 0 0]] [.box [.str p1]] (.bool r) [.box [.str p1]]:=by
 unfold iJ at h;refine aA true Tryz.func207 rfl (by rw[Tryz.ntmps207];exact qAa rfl) fun Q hQ t ht=>?_
 conv at ht=>whnf
 subst ht;refine .q fun K1 k1=>?_;refine rg 0 ?_
 conv=>whnf
 refine k1 _ _ ?_;refine .q fun K2 k2=>?_;refine rg 0 ?_
 conv=>whnf
 obtain⟨x1,hx1,h⟩:=ob h;refine dP [0] [] [.slice (List.map aj p0) .shared,.func 208 [.ptr 0 0]] [.slice (List.map aj p0) .shared,.func 208 [.ptr 0 0]] (Fj _ _ _ _ hx1) af7 rfl (.cons (rfl) .nil) (by simp;try decide) (.cons (.same _) (.cons (.same _) .nil)) (rn:=.int .i64 x1) (rfl) (Hn:=[.box [.str p1]]) ((fC (rfl) rfl)) ?_
 conv=>whnf
 refine k2 _ _ ?_;refine .ret ?_
 conv=>whnf
 have e9:=sj h;subst e9;refine hQ _ _ _ (jf (u4 (.bool (decide (0≤x1))::(u4 []))) [.box [.str p1]] (wk [some 0] (.u4 (.c rfl (.u4 .nil))) (.b rfl (.c rfl .nil) .nil) rfl) (dI aL [0] rfl (.cons (rfl) .nil) ?_))
 conv=>whnf
 first|rfl|(simp;done)|(simp;rfl)|(simp;and_intros<;>rfl)
theorem Nc(n:Nat)(p0:Env)(p1:Str)(r:Bool)(h:l8 n p0 p1=some r):ak Tryz.prog 156 [.agg [.slice (List.map aj p0.carriers) .shared,.slice (List.map aB p0.names) .shared],.str p1] [] (.bool r) []:=by
 unfold l8 at h;refine aA true Tryz.func156 rfl (by rw[Tryz.ntmps156];exact qAa rfl) fun Q hQ t ht=>?_
 conv at ht=>whnf
 subst ht;refine .q fun K1 k1=>?_;refine rg 2 ?_
 conv=>whnf
 refine k1 _ _ ?_;refine .q fun K2 k2=>?_;refine rg 0 ?_
 conv=>whnf
 obtain⟨x1,hx1,h⟩:=ob h;refine dP [1] [] [.slice (List.map aj p0.carriers) .shared,.func 208 [.ptr 0 0]] [.slice (List.map aj p0.carriers) .shared,.func 208 [.ptr 1 0]] (Cb _ _ _ _ hx1) anL rfl (.cons (rfl) .nil) (by simp;try decide) (.cons (.same _) (.cons (.same _) .nil)) (rn:=.bool x1) (rfl) (Hn:=[.box [.str p1]]) ((fC (rfl) rfl)) ?_
 conv=>whnf
 refine k2 _ _ ?_;refine .ret ?_
 conv=>whnf
 have e9:=sj h;subst e9;refine hQ _ _ _ (aF aL (fun g=>rfl) ?_)
 conv=>whnf
theorem Nj(n:Nat)(p0:Str)(p1:List Carrier)(p2:List Decl)(r:Bool)(h:lZ n p0 p1 p2=some r):ak Tryz.prog 155 [.str p0,.ptr 0 0] [.box [.slice (List.map aj p1) .shared,.slice (List.map aB p2) .shared]] (.bool r) [.box [.slice (List.map aj p1) .shared,.slice (List.map aB p2) .shared]]:=by
 unfold lZ at h;refine aA true Tryz.func155 rfl (by rw[Tryz.ntmps155];exact qAa rfl) fun Q hQ t ht=>?_
 conv at ht=>whnf
 subst ht;refine .q fun K1 k1=>?_;refine rg 0 ?_
 conv=>whnf
 refine k1 _ _ ?_;refine .q fun K2 k2=>?_;refine rg 0 ?_
 conv=>whnf
 obtain⟨x1,hx1,h⟩:=ob h;refine au (Nc _ _ _ _ hx1) aoF (.cons (.same _) (.cons (.same _) .nil)) (fun g=>by simp) (fun g=>rfl) ?_
 conv=>whnf
 refine k2 _ _ ?_;refine .ret ?_
 conv=>whnf
 have e9:=sj h;subst e9;refine hQ _ _ _ (jf (u2 (.unk::(.bool (!x1)::(u4 [])))) [.box [.slice (List.map aj p1) .shared,.slice (List.map aB p2) .shared]] (wk [some 0] (.u2 (.u (.c rfl (.u4 .nil)))) (.b rfl (.e aJ (.e aQ .nil)) .nil) rfl) (dI aL [0] rfl (.cons (by simp only[bN,ren,bD,bA,dK,bY,bP,bS,dF,bK,dB,aJ,aQ,aH,aT,aG,aU];try rfl) .nil) ?_))
 conv=>whnf
 first|rfl|(simp;done)|(simp;rfl)|(simp;and_intros<;>rfl)
theorem FQ(n:Nat)(p0:List Str)(p1:List Carrier)(p2:List Decl)(r:Int)(h:jM n p0 p1 p2=some r):ak Tryz.prog 158 [.slice (List.map encS p0) .shared,.func 155 [.ptr 0 0]] [.box [.slice (List.map aj p1) .shared,.slice (List.map aB p2) .shared]] (.int .i64 r) [.box [.slice (List.map aj p1) .shared,.slice (List.map aB p2) .shared]]:=by
 unfold jM at h;refine aA true Tryz.func158 rfl (by rw[Tryz.ntmps158];exact qAa rfl) fun Q hQ t ht=>?_
 conv at ht=>whnf
 subst ht;refine .q fun K1 k1=>?_;refine rg 0 ?_
 conv=>whnf
 refine k1 _ _ ?_;refine .q fun K2 k2=>?_;refine .q fun K3 k3=>?_;refine rg 0 ?_
 conv=>whnf
 refine aY (l:=p0) (f:=encS) ?_
 conv=>whnf
 refine k3 _ _ ?_;refine .block ?_;obtain⟨o1,ho1,h⟩:=ob h;have hR1:∀s2:Unit,o1=.nx s2→∀t9 h9,Le 1 t9 h9 (u16 (u2 (.unk::[]))) [.box [.slice (List.map aj p1) .shared,.slice (List.map aB p2) .shared]]→K2 t9 h9:=by
  intro s2 ho;subst ho;dsimp only[LR.el]at h;intro t9 h9 hw;refine k2 _ _ (AW.le hw ?_);refine .q fun K4 k4=>?_;refine rg 0 ?_
  conv=>whnf
  refine k4 _ _ ?_;refine .ret ?_
  conv=>whnf
  have e9:=sj h;subst e9;refine hQ _ _ _ (jf (u4 (.int .i64 (-1)::(u8 (u4 (u2 []))))) [.box [.slice (List.map aj p1) .shared,.slice (List.map aB p2) .shared]] (wk [some 0] (.u4 (.c rfl (.u8 (.u4 (.u2 .nil))))) (.b rfl (.e aJ (.e aQ .nil)) .nil) rfl) (dI aL [0] rfl (.cons (by simp only[bN,ren,bD,bA,dK,bY,bP,bS,dF,bK,dB,aJ,aQ,aH,aT,aG,aU];try rfl) .nil) ?_))
  conv=>whnf
  first|rfl|(simp;done)|(simp;rfl)|(simp;and_intros<;>rfl)
 refine .loopS (gH n p0 p1 p2) (fun(s1:Int)=>(.slice (List.map encS p0) .shared::(.func 155 [.ptr 0 0]::(u4 (.unk::(.int .i64 (p0.length:Int)::(.int .i64 s1::(u8 (u2 []))))))))) (fun(s1:Int)=>[.box [.slice (List.map aj p1) .shared,.slice (List.map aB p2) .shared]]) ho1 (fun _=>rfl) (li (.s (.s (.u4 (.u (.s (.s (.u8 (.u2 .n))))))))) ?_;intro n1 s1 hs1 KL1 hKL1;unfold gH at hs1;refine .q fun K5 k5=>?_;refine rg 0 ?_
 conv=>whnf
 refine k5 _ _ ?_;refine .q fun K6 k6=>?_;refine .aK rfl hs1 (fun hc1 hs1=>?_) (fun hc1 hs1=>?_)
 ·refine .skip ?_
  conv=>whnf
  refine k6 _ _ ?_;refine .q fun K7 k7=>?_;refine .block ?_;refine .q fun K8 k8=>?_;refine rg 0 ?_
  conv=>whnf
  refine k8 _ _ ?_;refine .q fun K9 k9=>?_;refine rg 0 ?_
  conv=>whnf
  obtain⟨x1,hx1,hs1⟩:=ob hs1;refine bf (l:=p0) (f:=encS) (cs:=[.str (x1)]) hx1 (rfl) rfl ?_
  conv=>whnf
  obtain⟨x2,hx2,hs1⟩:=ob hs1;refine dP [0] [] [.str x1,.ptr 0 0] [.str x1,.ptr 0 0] (Nj _ _ _ _ _ hx2) aov rfl (.cons (by simp only[bN,ren,bD,bA,dK,bY,bP,bS,dF,bK,dB,aJ,aQ,aH,aT,aG,aU];try rfl) .nil) (rfl) (.cons (.same _) (.cons (.same _) .nil)) (rn:=.bool x2) (rfl) (Hn:=[.box [.slice (List.map aj p1) .shared,.slice (List.map aB p2) .shared]]) ((fC (by simp only[bN,ren,bD,bA,dK,bY,bP,bS,dF,bK,dB,aJ,aQ,aH,aT,aG,aU];try rfl) rfl)) ?_
  conv=>whnf
  refine k9 _ _ ?_;refine .aK rfl hs1 (fun hc2 hs1=>?_) (fun hc2 hs1=>?_)
  ·refine .q fun K10 k10=>?_;refine rg 0 ?_
   conv=>whnf
   refine k10 _ _ ?_;refine .ret ?_
   conv=>whnf
   have e9:=sj hs1;subst e9;dsimp only[LR.el]at h;have e9:=sj h;subst e9;refine hQ _ _ _ (jf (u4 (.int .i64 s1::(u8 (u4 (u2 []))))) [.box [.slice (List.map aj p1) .shared,.slice (List.map aB p2) .shared]] (wk [some 0] (.u4 (.c rfl (.u8 (.u4 (.u2 .nil))))) (.b rfl (.e aJ (.e aQ .nil)) .nil) rfl) (dI aL [0] rfl (.cons (by simp only[bN,ren,bD,bA,dK,bY,bP,bS,dF,bK,dB,aJ,aQ,aH,aT,aG,aU];try rfl) .nil) ?_))
   conv=>whnf
   first|rfl|(simp;done)|(simp;rfl)|(simp;and_intros<;>rfl)
  refine .skip ?_
  conv=>whnf
  refine k7 _ _ ?_;refine .know 5 0 fun hv1=>?_;refine .know 0 0 fun hv2=>?_;refine rg 0 ?_
  conv=>whnf
  refine⟨(s1+1),by have:=fP hv1;have:=mO hv2;have h8:=of_decide_eq_true hc1;exact bT (by omega) (by omega),?_⟩
  conv=>whnf
  exact hKL1 _ _ _ hs1 (li (.s (.s (.u4 (.u (.s (.s (.u8 (.u2 .n)))))))))
 refine .exit ?_
 conv=>whnf
 exact hR1 _ (sj hs1).symm _ _ (li (.u16 (.u2 (.u .n))))
theorem Df(n:Nat)(p0:List Str)(p1:List Carrier)(p2:List Decl)(r:Bool)(h:iP n p0 p1 p2=some r):ak Tryz.prog 94 [.slice (List.map encS p0) .shared,.func 155 [.ptr 0 0]] [.box [.slice (List.map aj p1) .shared,.slice (List.map aB p2) .shared]] (.bool r) [.box [.slice (List.map aj p1) .shared,.slice (List.map aB p2) .shared]]:=by
 unfold iP at h;refine aA true Tryz.func94 rfl (by rw[Tryz.ntmps94];exact qAa rfl) fun Q hQ t ht=>?_
 conv at ht=>whnf
 subst ht;refine .q fun K1 k1=>?_;refine rg 0 ?_
 conv=>whnf
 refine k1 _ _ ?_;refine .q fun K2 k2=>?_;refine rg 0 ?_
 conv=>whnf
 obtain⟨x1,hx1,h⟩:=ob h;refine dP [0] [] [.slice (List.map encS p0) .shared,.func 155 [.ptr 0 0]] [.slice (List.map encS p0) .shared,.func 155 [.ptr 0 0]] (FQ _ _ _ _ _ hx1) agZ rfl (.cons (by simp only[bN,ren,bD,bA,dK,bY,bP,bS,dF,bK,dB,aJ,aQ,aH,aT,aG,aU];try rfl) .nil) (by simp;try decide) (.cons (.same _) (.cons (.same _) .nil)) (rn:=.int .i64 x1) (rfl) (Hn:=[.box [.slice (List.map aj p1) .shared,.slice (List.map aB p2) .shared]]) ((fC (by simp only[bN,ren,bD,bA,dK,bY,bP,bS,dF,bK,dB,aJ,aQ,aH,aT,aG,aU];try rfl) rfl)) ?_
 conv=>whnf
 refine k2 _ _ ?_;refine .ret ?_
 conv=>whnf
 have e9:=sj h;subst e9;refine hQ _ _ _ (jf (u4 (.bool (decide (0≤x1))::(u4 []))) [.box [.slice (List.map aj p1) .shared,.slice (List.map aB p2) .shared]] (wk [some 0] (.u4 (.c rfl (.u4 .nil))) (.b rfl (.e aJ (.e aQ .nil)) .nil) rfl) (dI aL [0] rfl (.cons (by simp only[bN,ren,bD,bA,dK,bY,bP,bS,dF,bK,dB,aJ,aQ,aH,aT,aG,aU];try rfl) .nil) ?_))
 conv=>whnf
 first|rfl|(simp;done)|(simp;rfl)|(simp;and_intros<;>rfl)
theorem Px(n:Nat)(p0:Env)(p1:Ty)(r:Bool)(h:iZ n p0 p1=some r):ak Tryz.prog 90 [.agg [.slice (List.map aj p0.carriers) .shared,.slice (List.map aB p0.names) .shared],.agg [.int .i64 p1.kind,.str p1.name,.slice (List.map aC p1.kids) .shared]] [] (.bool r) []:=by
 unfold iZ at h;refine aA true Tryz.func90 rfl (by rw[Tryz.ntmps90];exact qAa rfl) fun Q hQ t ht=>?_
 conv at ht=>whnf
 subst ht;refine .q fun K1 k1=>?_;refine rg 2 ?_
 conv=>whnf
 refine k1 _ _ ?_;refine .q fun K2 k2=>?_;refine rg 0 ?_
 conv=>whnf
 obtain⟨x1,hx1,h⟩:=ob h;refine au (EO _ _ _ hx1) aj5 (.cons (.same _) .nil) (fun g=>by simp) (fun g=>by simp) ?_
 conv=>whnf
 obtain⟨x2,hx2,h⟩:=ob h;refine dP [0] [] [.slice (List.map encS x1) .shared,.func 155 [.ptr 0 0]] [.slice (List.map encS x1) .shared,.func 155 [.ptr 0 0]] (Df _ _ _ _ _ hx2) aj1 rfl (.cons (by simp only[bN,ren,bD,bA,dK,bY,bP,bS,dF,bK,dB,aJ,aQ,aH,aT,aG,aU];try rfl) .nil) (by simp;try decide) (.cons (.same _) (.cons (.same _) .nil)) (rn:=.bool x2) (rfl) (Hn:=[.box [.slice (List.map aj p0.carriers) .shared,.slice (List.map aB p0.names) .shared]]) ((fC (by simp only[bN,ren,bD,bA,dK,bY,bP,bS,dF,bK,dB,aJ,aQ,aH,aT,aG,aU];try rfl) rfl)) ?_
 conv=>whnf
 refine k2 _ _ ?_;refine .ret ?_
 conv=>whnf
 have e9:=sj h;subst e9;refine hQ _ _ _ (aF aL (fun g=>rfl) ?_)
 conv=>whnf
end Abs
end Go.Proofs.YtkopaeklihhdlaaGreat

/-
  EvalEvaluates holds: for all arguments the law returns true, and each argument reads afterwards as it read before. Conditions: none.
-/
import Derived.WalkKit
import Derived.OpenShut
import Derived.ShutString
import Derived.ChangeOld
import Derived.Test.YtneeginmfjageaaGreatCSrxox7da27e
import Derived.Test.YtneeginmfjageaaGreatCG1oxe0aaae
import Derived.Test.YtneeginmfjageaaGreatCW24ox0fc17f
import Derived.Test.YtneeginmfjageaaGreatCFEvalEvaluatesox2d6a8f
set_option linter.all false
namespace Go.Proofs.YtneeginmfjageaaGreat
open Go Go.Proofs Go.ChangeShapes Go.WideShapes Go.ChangeAt Go.RowKit
open Go.ChangeMaps (open_string shut_string)
def own:ownKnob Tryz.prog.godebug=none:=by kernel_rfl
set_option maxRecDepth 100000 in
def EvalEvaluates_calls(w:Abs.S_api_World)(t:Abs.Tm)(h0:(∀d∈w.env.names,d.name.length<=9223372036854775807)/\∀v∈w.values,Abs.gU v)(a:Abs.iN t):
  Abs.eH Tryz.prog 3 [.agg (Abs.zi w),.agg (Abs.lY t)] [] (.bool true) []:=by let⟨n,b⟩:=Abs.aAW w t h0.1 h0.2 a;have h:=(Abs.aze n).2.2 (w.env.carriers,w.env.names,w.sizes,w.values,t) true (b n (qAd n)) _ _ rfl;have:=h _ _ rfl;exact this
set_option maxRecDepth 100000 in
def EvalEvaluates_lifted(os:Os)(s:os.Started)(H:Type)(enc:TypeId×Value->H):
  ReturnsInHanded {} Tryz.checked os 3 .any (Rows.evalEvaluatesSpec.pre6 enc Tryz.prog Tryz.f3 Rows.evalEvaluatesRow.domain false) (Rows.evalEvaluatesSpec.post enc Tryz.prog Tryz.f3 false true false false):=by
 refine returnsInHanded_of_change (C:=Tryz.checked) own s Abs.Cs Tryz.func3
  (ChangeSpec.witness6 (enc:=enc) (C:=Tryz.checked) false ⟨#[],#[.agg #[.slice none 0 0,.slice none 0 0,.slice none 0 0,.slice none 0 0],.agg #[.int .i64 0,.string ⟨#[]⟩,.int .i64 0,.int .i64 0,.string ⟨#[]⟩,.slice none 0 0,.slice none 0 0]],[]⟩ 8 Abs.Cs Abs.Cs Abs.Cs Abs.Cs) ?_
 intro W f a F U o l A B _;have b:∀(j:Nat) t v,Tryz.f3.params[j]? =some t->a[j]? =some v->Value.okWide Tryz.prog W .any f t v:=l;have i:=A;obtain⟨p,q,g,G,rfl,I,J⟩:=A;have hA:DataW.TrodAll enc Tryz.prog W 0 (λ_=>true) true Tryz.f3.params.toList a.toList F p:=g;rw[Tryz.params3]at hA b;obtain⟨v0,K,V,L,M,X,r,rfl,rfl,k,N⟩:=trodAll_cons hA;obtain⟨n,O,Y,P,Q,Z,rfl,rfl,rfl,u,R⟩:=trodAll_cons N;obtain⟨rfl,rfl,rfl⟩:=trodAll_nil R;obtain rfl:a=#[v0,n]:=by cases a;simp_all
 obtain⟨rfl,rfl⟩:=trodVars_none G;let⟨w,D⟩:=Abs.amT (κ:=[]) (pv:=Abs.aH (λ_ _=>False) [] []) Tryz.underlying29 (b 0 29 v0 rfl rfl) k (Abs.aul Abs.ak);let⟨t,E⟩:=Abs.amT (κ:=[]) (pv:=Abs.aH (λ_ _=>False) [] []) Tryz.underlying35 (b 1 35 n rfl rfl) u (Abs.aBa Abs.ak);have lt0:∀x∈M,x.block<W.heap.size:=by let⟨m,y⟩:=k;exact DataW.trod_lt m _ _ _ y
 have z:∀x∈Q,x.block<W.heap.size:=by let⟨m,y⟩:=u;exact DataW.trod_lt m _ _ _ y
 clear g l;have c:=Abs.aDc (vs:=[v0,n]) (w:=W) (EvalEvaluates_calls w t (Abs.auw D) (Abs.aB7 E)) rfl (λj S=>by
  match j,S with|0,_=>exact D|1,_=>exact E)
 refine c.mono λe W' ⟨T,d⟩=>?_;subst T;exact⟨_,rfl,_,_,_,[],_,[],i,trodAll_mk1 (shut_bool Tryz.underlying4 _),(trodAll_cons_mk (Below.trod Abs.laidOut Abs.Cs (of_decide_eq_true Abs.Cs) k d lt0) (trodAll_cons_mk (Below.trod Abs.laidOut Abs.Cs (of_decide_eq_true Abs.Cs) u d z) trodAll_mk0)),rfl,d.frame _,λh=>by cases h⟩
theorem EvalEvaluates_holds:Rows.EvalEvaluatesSaid:=
 OpenClaim.holds_of_wide 3 Tryz.f3 rfl rfl rfl rfl rfl rfl rfl ⟨rfl,rfl,rfl,rfl,rfl⟩ rfl rfl rfl rfl rfl EvalEvaluates_named Tryz.func3 EvalEvaluates_facts EvalEvaluates_inst EvalEvaluates_wrap
  (λo s H e _=>EvalEvaluates_lifted o s H e)
#print axioms EvalEvaluates_holds
end Go.Proofs.YtneeginmfjageaaGreat

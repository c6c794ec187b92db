/-
  EvalLiteralBack holds: for all arguments the law returns true, and each argument reads afterwards as it read before. Conditions: none.
-/
import Derived.WalkKit
import Derived.OpenShut
import Derived.ShutString
import Derived.ChangeOld
import Derived.Test.YthgdaonechbgmaaGreatCSrxoxac54ec
import Derived.Test.YthgdaonechbgmaaGreatCG1ox3128c4
import Derived.Test.YthgdaonechbgmaaGreatCP67ox8797ce
import Derived.Test.YthgdaonechbgmaaGreatCFEvalLiteralBackox6d4e75
set_option linter.all false
namespace Go.Proofs.YthgdaonechbgmaaGreat
open Go Go.Proofs Go.ChangeShapes Go.WideShapes Go.ChangeAt Go.RowKit
open Go.ChangeMaps (open_string shut_string)
theorem own:ownKnob Tryz.prog.godebug=none:=by kernel_rfl
set_option maxRecDepth 100000 in
theorem EvalLiteralBack_calls(w:Abs.S_api_World)(v:Abs.Val)(ty:Abs.Ty)(h0:(∀d∈w.env.names,d.name.length≤9223372036854775807)∧∀v∈w.values,Abs.gU v)(h1:Abs.gU v):
  Abs.eH Tryz.prog 5 [.agg (Abs.zi w),.agg (Abs.bf v),.agg (Abs.oK ty)] [] (.bool true) []:=by
 obtain⟨n,hn⟩:=Abs.law_EvalLiteralBack w v ty h0.1 h0.2;have h:=(Abs.t_L3_EvalLiteralBack n).2.2 (w.env.carriers,w.env.names,w.sizes,w.values,v,ty) true (hn n (qAd n)) _ _ rfl;have:=h _ _ rfl;exact this
set_option maxRecDepth 100000 in
theorem EvalLiteralBack_lifted(os:Os)(started:os.Started)(H:Type)(enc:TypeId×Value→H):
  ReturnsInHanded {} Tryz.checked os 5 .any (Rows.evalLiteralBackSpec.pre6 enc Tryz.prog Tryz.f5 Rows.evalLiteralBackRow.domain false) (Rows.evalLiteralBackSpec.post enc Tryz.prog Tryz.f5 false true false false):=by
 refine returnsInHanded_of_change (C:=Tryz.checked) own started (by kernel_rfl) Tryz.func5
  (ChangeSpec.witness6 (enc:=enc) (C:=Tryz.checked) false ⟨#[],#[.agg #[.slice none 0 0,.slice none 0 0,.slice none 0 0,.slice none 0 0],.agg #[.int .i64 0,.int .i64 0,.string ⟨#[]⟩,.slice none 0 0],.agg #[.int .i64 0,.string ⟨#[]⟩,.slice none 0 0]],[]⟩ 8 (by kernel_rfl) (by kernel_rfl) (by kernel_rfl) (by kernel_rfl)) ?_
 intro W base args ds gs before hval0 hW hcnd _;have hval:∀(j:Nat) t v,Tryz.f5.params[j]? =some t→args[j]? =some v→Value.okWide Tryz.prog W .any base t v:=hval0;have hW':=hW;obtain⟨p,q,hA0,hV,rfl,hfz,hnd⟩:=hW;have hA:DataW.TrodAll enc Tryz.prog W 0 (fun _=>true) true Tryz.f5.params.toList args.toList ds p:=hA0;rw[Tryz.params5]at hA hval;obtain⟨v0,vs0,d0,ds0,p0,q0,hargs,rfl,rfl,a0,r0⟩:=trodAll_cons hA;obtain⟨v1,vs1,d1,ds1,p1,q1,rfl,rfl,rfl,a1,r1⟩:=trodAll_cons r0;obtain⟨v2,vs2,d2,ds2,p2,q2,rfl,rfl,rfl,a2,r2⟩:=trodAll_cons r1;obtain⟨rfl,rfl,rfl⟩:=trodAll_nil r2;obtain rfl:args=#[v0,v1,v2]:=by cases args;simp_all
 obtain⟨rfl,rfl⟩:=trodVars_none hV;obtain⟨w,e0⟩:=Abs.amT (κ:=[]) (pv:=Abs.aH (fun _ _=>False) [] []) Tryz.underlying29 (hval 0 29 v0 rfl rfl) a0 (Abs.aul Abs.ak);obtain⟨v,e1⟩:=Abs.amT (κ:=[]) (pv:=Abs.aH (fun _ _=>False) [] []) Tryz.underlying40 (hval 1 40 v1 rfl rfl) a1 (Abs.aAS Abs.ak);obtain⟨ty,e2⟩:=Abs.amT (κ:=[]) (pv:=Abs.aH (fun _ _=>False) [] []) Tryz.underlying32 (hval 2 32 v2 rfl rfl) a2 (Abs.arX Abs.ak);have lt0:∀x∈p0,x.block<W.heap.size:=by obtain⟨m,hm⟩:=a0;exact DataW.trod_lt m _ _ _ hm
 have lt1:∀x∈p1,x.block<W.heap.size:=by obtain⟨m,hm⟩:=a1;exact DataW.trod_lt m _ _ _ hm
 have lt2:∀x∈p2,x.block<W.heap.size:=by obtain⟨m,hm⟩:=a2;exact DataW.trod_lt m _ _ _ hm
 clear hA0 hval0;have hcall:=Abs.aDc (vs:=[v0,v1,v2]) (w:=W) (EvalLiteralBack_calls w v ty (Abs.auw e0) (Abs.aKh e1)) rfl (fun j hj=>by
  match j,hj with
  |0,_=>exact e0
  |1,_=>exact e1
  |2,_=>exact e2)
 refine hcall.mono fun e W' ⟨he,bel⟩=>?_;subst he;exact⟨_,rfl,_,_,_,[],_,[],hW',trodAll_mk1 (shut_bool Tryz.underlying4 _),(trodAll_cons_mk (Below.trod Abs.laidOut (by kernel_rfl) (of_decide_eq_true (by kernel_rfl)) a0 bel lt0) (trodAll_cons_mk (Below.trod Abs.laidOut (by kernel_rfl) (of_decide_eq_true (by kernel_rfl)) a1 bel lt1) (trodAll_cons_mk (Below.trod Abs.laidOut (by kernel_rfl) (of_decide_eq_true (by kernel_rfl)) a2 bel lt2) trodAll_mk0))),rfl,bel.frame _,fun h=>by cases h⟩
theorem EvalLiteralBack_holds:Rows.EvalLiteralBackSaid:=
 OpenClaim.holds_of_wide 5 Tryz.f5 rfl rfl rfl rfl rfl rfl rfl ⟨rfl,rfl,rfl,rfl,rfl⟩ rfl rfl rfl rfl rfl EvalLiteralBack_named Tryz.func5 EvalLiteralBack_facts EvalLiteralBack_inst EvalLiteralBack_wrap
  (fun os started H enc _=>EvalLiteralBack_lifted os started H enc)
#print axioms EvalLiteralBack_holds
end Go.Proofs.YthgdaonechbgmaaGreat

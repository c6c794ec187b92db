/-
  EvalDefined holds: for all arguments the law returns true, and each argument reads afterwards as it read before. Conditions: none.
-/
import Derived.WalkKit
import Derived.OpenShut
import Derived.ShutString
import Derived.ChangeOld
import Derived.Test.YtneeginmfjageaaGreatCG1oxdebf82
import Derived.Test.YtneeginmfjageaaGreatCW30oxd46e87
import Derived.Test.YtneeginmfjageaaGreatCFEvalDefinedox74951b
set_option linter.all false
namespace Go.Proofs.YtneeginmfjageaaGreat
open Go Go.Proofs Go.ChangeShapes Go.WideShapes Go.ChangeAt Go.RowKit
open Go.ChangeMaps (open_string shut_string)
theorem own:ownKnob Tryz.prog.godebug=none:=by kernel_rfl
set_option maxRecDepth 100000 in
theorem aeX(w:Abs.S_api_World)(t:Abs.Tm)(h0:(∀d∈w.env.names,d.name.length≤9223372036854775807)∧∀v∈w.values,Abs.gU v)(h1:Abs.iN t):
  Abs.eH Tryz.prog 4 [.agg (Abs.zi w),.agg (Abs.lY t)] [] (.bool true) []:=by
 obtain⟨n,hn⟩:=Abs.aiM w t h0.1 h1;have h:=(Abs.ahr n).2.2 (w.env.carriers,w.env.names,w.sizes,w.values,t) true (hn n (qAd n)) _ _ rfl;have:=h _ _ rfl;exact this
set_option maxRecDepth 100000 in
theorem ab6(os:Os)(started:os.Started)(H:Type)(enc:TypeId×Value→H):
  ReturnsInHanded {} Tryz.checked os 4 .any (Rows.evalDefinedSpec.pre6 enc Tryz.prog Tryz.f4 Rows.evalDefinedRow.domain false) (Rows.evalDefinedSpec.post enc Tryz.prog Tryz.f4 false true false false):=by
 refine returnsInHanded_of_change (C:=Tryz.checked) own started (by kernel_rfl) Tryz.func4
  (ChangeSpec.witness6 (enc:=enc) (C:=Tryz.checked) false ⟨#[],#[.agg #[.slice none 0 0,.slice none 0 0,.slice none 0 0,.slice none 0 0],.agg #[.int .i64 0,.string ⟨#[]⟩,.int .i64 0,.int .i64 0,.string ⟨#[]⟩,.slice none 0 0,.slice none 0 0]],[]⟩ 8 (by kernel_rfl) (by kernel_rfl) (by kernel_rfl) (by kernel_rfl)) ?_
 intro W base args ds gs before hval0 hW hcnd _;have hval:∀(j:Nat) t v,Tryz.f4.params[j]? =some t→args[j]? =some v→Value.okWide Tryz.prog W .any base t v:=hval0;have hW':=hW;obtain⟨p,q,hA0,hV,rfl,hfz,hnd⟩:=hW;have hA:DataW.TrodAll enc Tryz.prog W 0 (fun _=>true) true Tryz.f4.params.toList args.toList ds p:=hA0;rw[Tryz.params4]at hA hval;obtain⟨v0,vs0,d0,ds0,p0,q0,hargs,rfl,rfl,a0,r0⟩:=trodAll_cons hA;obtain⟨v1,vs1,d1,ds1,p1,q1,rfl,rfl,rfl,a1,r1⟩:=trodAll_cons r0;obtain⟨rfl,rfl,rfl⟩:=trodAll_nil r1;obtain rfl:args=#[v0,v1]:=by cases args;simp_all
 obtain⟨rfl,rfl⟩:=trodVars_none hV;obtain⟨w,e0⟩:=Abs.amT (κ:=[]) (pv:=Abs.aH (fun _ _=>False) [] []) Tryz.underlying29 (hval 0 29 v0 rfl rfl) a0 (Abs.aul Abs.ak);obtain⟨t,e1⟩:=Abs.amT (κ:=[]) (pv:=Abs.aH (fun _ _=>False) [] []) Tryz.underlying35 (hval 1 35 v1 rfl rfl) a1 (Abs.aBa Abs.ak);have lt0:∀x∈p0,x.block<W.heap.size:=by obtain⟨m,hm⟩:=a0;exact DataW.trod_lt m _ _ _ hm
 have lt1:∀x∈p1,x.block<W.heap.size:=by obtain⟨m,hm⟩:=a1;exact DataW.trod_lt m _ _ _ hm
 clear hA0 hval0;have hcall:=Abs.aDc (vs:=[v0,v1]) (w:=W) (aeX w t (Abs.auw e0) (Abs.aB7 e1)) rfl (fun j hj=>by
  match j,hj with
  |0,_=>exact e0
  |1,_=>exact e1)
 refine hcall.mono fun e W' ⟨he,bel⟩=>?_;subst he;exact⟨_,rfl,_,_,_,[],_,[],hW',trodAll_mk1 (shut_bool Tryz.underlying4 _),(trodAll_cons_mk (Below.trod Abs.laidOut (by kernel_rfl) (of_decide_eq_true (by kernel_rfl)) a0 bel lt0) (trodAll_cons_mk (Below.trod Abs.laidOut (by kernel_rfl) (of_decide_eq_true (by kernel_rfl)) a1 bel lt1) trodAll_mk0)),rfl,bel.frame _,fun h=>by cases h⟩
theorem EvalDefined_holds:Rows.EvalDefinedSaid:=
 OpenClaim.holds_of_wide 4 Tryz.f4 rfl rfl rfl rfl rfl rfl rfl ⟨rfl,rfl,rfl,rfl,rfl⟩ rfl rfl rfl rfl rfl aeC Tryz.func4 aeZ agb agu
  (fun os started H enc _=>ab6 os started H enc)
#print axioms EvalDefined_holds
end Go.Proofs.YtneeginmfjageaaGreat

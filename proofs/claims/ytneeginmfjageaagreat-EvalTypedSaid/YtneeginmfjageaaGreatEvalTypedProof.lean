/-
  EvalTyped holds: for all arguments the law returns true, and each argument reads afterwards as it read before. Conditions: none.
-/
import Derived.WalkKit
import Derived.OpenShut
import Derived.ShutString
import Derived.ChangeOld
import Derived.Test.YtneeginmfjageaaGreatCG1oxd1874b
import Derived.Test.YtneeginmfjageaaGreatCW10oxbabe9a
import Derived.Test.YtneeginmfjageaaGreatCFEvalTypedoxa8a4e6
set_option linter.all false
namespace Go.Proofs.YtneeginmfjageaaGreat
open Go Go.Proofs Go.ChangeShapes Go.WideShapes Go.ChangeAt Go.RowKit
open Go.ChangeMaps (open_string shut_string)
theorem own:ownKnob Tryz.prog.godebug=none:=by kernel_rfl
set_option maxRecDepth 100000 in
theorem ahA(w:Abs.S_api_World)(s:Abs.Tm)(h0:(∀d∈w.env.names,d.name.length≤9223372036854775807)∧∀v∈w.values,Abs.lI v)(h1:Abs.mh s):
  Abs.cK Tryz.prog 7 [.agg (Abs.oL w),.agg (Abs.jh s)] [] (.bool true) []:=by
 obtain⟨n,hn⟩:=Abs.anz w s h0.1 h1;have h:=(Abs.akH n).2.2 (w.env.carriers,w.env.names,w.sizes,w.values,s) true (hn n (qAd n)) _ _ rfl;have:=h _ _ rfl;exact this
set_option maxRecDepth 100000 in
theorem afE(os:Os)(started:os.Started)(H:Type)(enc:TypeId×Value→H):
  ReturnsInHanded {} Tryz.checked os 7 .any (Rows.evalTypedSpec.pre6 enc Tryz.prog Tryz.f7 Rows.evalTypedRow.domain false) (Rows.evalTypedSpec.post enc Tryz.prog Tryz.f7 false true false false):=by
 refine returnsInHanded_of_change (C:=Tryz.checked) own started (by kernel_rfl) Tryz.func7
  (ChangeSpec.witness6 (enc:=enc) (C:=Tryz.checked) false ⟨#[],#[.agg #[.slice none 0 0,.slice none 0 0,.slice none 0 0,.slice none 0 0],.agg #[.int .i64 0,.string ⟨#[]⟩,.int .i64 0,.int .i64 0,.string ⟨#[]⟩,.slice none 0 0,.slice none 0 0]],[]⟩ 8 (by kernel_rfl) (by kernel_rfl) (by kernel_rfl) (by kernel_rfl)) ?_
 intro W base args ds gs before hval0 hW hcnd _;have hval:∀(j:Nat) t v,Tryz.f7.params[j]? =some t→args[j]? =some v→Value.okWide Tryz.prog W .any base t v:=hval0;have hW':=hW;obtain⟨p,q,hA0,hV,rfl,hfz,hnd⟩:=hW;have hA:DataW.TrodAll enc Tryz.prog W 0 (fun _=>true) true Tryz.f7.params.toList args.toList ds p:=hA0;rw[Tryz.params7]at hA hval;obtain⟨v0,vs0,d0,ds0,p0,q0,hargs,rfl,rfl,a0,r0⟩:=trodAll_cons hA;obtain⟨v1,vs1,d1,ds1,p1,q1,rfl,rfl,rfl,a1,r1⟩:=trodAll_cons r0;obtain⟨rfl,rfl,rfl⟩:=trodAll_nil r1;obtain rfl:args=#[v0,v1]:=by cases args;simp_all
 obtain⟨rfl,rfl⟩:=trodVars_none hV;obtain⟨w,e0⟩:=Abs.yg (κ:=[]) (pv:=Abs.aD (fun _ _=>False) [] []) Tryz.underlying29 (hval 0 29 v0 rfl rfl) a0 (Abs.SV Abs.ak);obtain⟨s,e1⟩:=Abs.yg (κ:=[]) (pv:=Abs.aD (fun _ _=>False) [] []) Tryz.underlying35 (hval 1 35 v1 rfl rfl) a1 (Abs.OY Abs.ak);have lt0:∀x∈p0,x.block<W.heap.size:=by obtain⟨m,hm⟩:=a0;exact DataW.trod_lt m _ _ _ hm
 have lt1:∀x∈p1,x.block<W.heap.size:=by obtain⟨m,hm⟩:=a1;exact DataW.trod_lt m _ _ _ hm
 clear hA0 hval0;have hcall:=Abs.aeS (vs:=[v0,v1]) (w:=W) (ahA w s (Abs.R8 e0) (Abs.Ot e1)) rfl (fun j hj=>by
  match j,hj with
  |0,_=>exact e0
  |1,_=>exact e1)
 refine hcall.mono fun e W' ⟨he,bel⟩=>?_;subst he;exact⟨_,rfl,_,_,_,[],_,[],hW',trodAll_mk1 (shut_bool Tryz.underlying4 _),(trodAll_cons_mk (Below.trod Abs.laidOut (by kernel_rfl) (of_decide_eq_true (by kernel_rfl)) a0 bel lt0) (trodAll_cons_mk (Below.trod Abs.laidOut (by kernel_rfl) (of_decide_eq_true (by kernel_rfl)) a1 bel lt1) trodAll_mk0)),rfl,bel.frame _,fun h=>by cases h⟩
theorem EvalTyped_holds:Rows.EvalTypedSaid:=
 OpenClaim.holds_of_wide 7 Tryz.f7 rfl rfl rfl rfl rfl rfl rfl ⟨rfl,rfl,rfl,rfl,rfl⟩ rfl rfl rfl rfl rfl ahb Tryz.func7 agp ajG akP
  (fun os started H enc _=>afE os started H enc)
#print axioms EvalTyped_holds
end Go.Proofs.YtneeginmfjageaaGreat

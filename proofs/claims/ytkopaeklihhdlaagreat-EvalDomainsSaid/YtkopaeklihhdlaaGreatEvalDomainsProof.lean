/-
  EvalDomains holds: for all arguments the law returns true, and each argument reads afterwards as it read before. Conditions: none.
-/
import Derived.WalkKit
import Derived.OpenShut
import Derived.ShutString
import Derived.ChangeOld
import Derived.Test.YtkopaeklihhdlaaGreatCS1oxa3a505
import Derived.Test.YtkopaeklihhdlaaGreatCG1oxe0a3fb
import Derived.Test.YtkopaeklihhdlaaGreatCP97ox83ef76
import Derived.Test.YtkopaeklihhdlaaGreatCFEvalDomainsox68fa39
set_option linter.all false
namespace Go.Proofs.YtkopaeklihhdlaaGreat
open Go Go.Proofs Go.ChangeShapes Go.WideShapes Go.ChangeAt Go.RowKit
open Go.ChangeMaps (open_string shut_string)
theorem own:ownKnob Tryz.prog.godebug=none:=by kernel_rfl
set_option maxRecDepth 100000 in
theorem Ry(e:Abs.Env)(s:Abs.S_api_Scope)(t:Abs.Ty)(h0:∀d∈e.names,d.name.length≤9223372036854775807):
  Abs.ak Tryz.prog 8 [.agg (Abs.OL e),.agg (Abs.rW s),.agg (Abs.aC t)] [] (.bool true) []:=by
 obtain⟨n,hn⟩:=Abs.Vt e s t h0;have:=Abs.Rv n e s t true (hn n (qAc n));simp only[Abs.bZ];exact this
set_option maxRecDepth 100000 in
theorem Ql(os:Os)(started:os.Started)(H:Type)(enc:TypeId×Value→H):
  ReturnsInHanded {} Tryz.checked os 8 .any (Rows.evalDomainsSpec.pre6 enc Tryz.prog Tryz.f8 Rows.evalDomainsRow.domain false) (Rows.evalDomainsSpec.post enc Tryz.prog Tryz.f8 false true false false):=by
 refine returnsInHanded_of_change (C:=Tryz.checked) own started (by kernel_rfl) Tryz.func8
  (ChangeSpec.witness6 (enc:=enc) (C:=Tryz.checked) false ⟨#[],#[.agg #[.slice none 0 0,.slice none 0 0],.agg #[.slice none 0 0,.int .i64 0,.int .i64 0],.agg #[.int .i64 0,.string ⟨#[]⟩,.slice none 0 0]],[]⟩ 8 (by kernel_rfl) (by kernel_rfl) (by kernel_rfl) (by kernel_rfl)) ?_
 intro W base args ds gs before hval0 hW hcnd _;have hval:∀(j:Nat) t v,Tryz.f8.params[j]? =some t→args[j]? =some v→Value.okWide Tryz.prog W .any base t v:=hval0;have hW':=hW;obtain⟨p,q,hA0,hV,rfl,hfz,hnd⟩:=hW;have hA:DataW.TrodAll enc Tryz.prog W 0 (fun _=>true) true Tryz.f8.params.toList args.toList ds p:=hA0;rw[Tryz.params8]at hA hval;obtain⟨v0,vs0,d0,ds0,p0,q0,hargs,rfl,rfl,a0,r0⟩:=trodAll_cons hA;obtain⟨v1,vs1,d1,ds1,p1,q1,rfl,rfl,rfl,a1,r1⟩:=trodAll_cons r0;obtain⟨v2,vs2,d2,ds2,p2,q2,rfl,rfl,rfl,a2,r2⟩:=trodAll_cons r1;obtain⟨rfl,rfl,rfl⟩:=trodAll_nil r2;obtain rfl:args=#[v0,v1,v2]:=by cases args;simp_all
 obtain⟨rfl,rfl⟩:=trodVars_none hV;obtain⟨e,e0⟩:=Abs.PO (κ:=[]) (pv:=Abs.aO (fun _ _=>False) [] []) Tryz.underlying25 (hval 0 25 v0 rfl rfl) a0 (Abs.aac Abs.aN);obtain⟨s,e1⟩:=Abs.PO (κ:=[]) (pv:=Abs.aO (fun _ _=>False) [] []) Tryz.underlying38 (hval 1 38 v1 rfl rfl) a1 (Abs.afr Abs.aN);obtain⟨t,e2⟩:=Abs.PO (κ:=[]) (pv:=Abs.aO (fun _ _=>False) [] []) Tryz.underlying34 (hval 2 34 v2 rfl rfl) a2 (Abs.Ta Abs.aN);have lt0:∀x∈p0,x.block<W.heap.size:=by obtain⟨m,hm⟩:=a0;exact DataW.trod_lt m _ _ _ hm
 have lt1:∀x∈p1,x.block<W.heap.size:=by obtain⟨m,hm⟩:=a1;exact DataW.trod_lt m _ _ _ hm
 have lt2:∀x∈p2,x.block<W.heap.size:=by obtain⟨m,hm⟩:=a2;exact DataW.trod_lt m _ _ _ hm
 clear hA0 hval0;have hcall:=Abs.akI (vs:=[v0,v1,v2]) (w:=W) (Ry e s t (Abs.afu e0)) rfl (fun j hj=>by
  match j,hj with
  |0,_=>exact e0
  |1,_=>exact e1
  |2,_=>exact e2)
 refine hcall.mono fun e W' ⟨he,bel⟩=>?_;subst he;exact⟨_,rfl,_,_,_,[],_,[],hW',trodAll_mk1 (shut_bool Tryz.underlying4 _),(trodAll_cons_mk (Below.trod Abs.laidOut (by kernel_rfl) (of_decide_eq_true (by kernel_rfl)) a0 bel lt0) (trodAll_cons_mk (Below.trod Abs.laidOut (by kernel_rfl) (of_decide_eq_true (by kernel_rfl)) a1 bel lt1) (trodAll_cons_mk (Below.trod Abs.laidOut (by kernel_rfl) (of_decide_eq_true (by kernel_rfl)) a2 bel lt2) trodAll_mk0))),rfl,bel.frame _,fun h=>by cases h⟩
theorem EvalDomains_holds:Rows.EvalDomainsSaid:=
 OpenClaim.holds_of_wide 8 Tryz.f8 rfl rfl rfl rfl rfl rfl rfl ⟨rfl,rfl,rfl,rfl,rfl⟩ rfl rfl rfl rfl rfl RI Tryz.func8 Rq Tk TL
  (fun os started H enc _=>Ql os started H enc)
#print axioms EvalDomains_holds
end Go.Proofs.YtkopaeklihhdlaaGreat

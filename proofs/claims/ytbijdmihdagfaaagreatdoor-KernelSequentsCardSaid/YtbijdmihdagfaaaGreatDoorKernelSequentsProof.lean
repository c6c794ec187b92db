/-
  KernelSequents holds: for all arguments the law returns true, and each argument reads afterwards as it read before; and its tied card. Conditions: none.
-/
import Derived.Test.YtbijdmihdagfaaaGreatDoorCards
import Derived.Test.YtbijdmihdagfaaaGreatDoorTie
import Derived.WalkKit
import Derived.OpenShut
import Derived.ShutString
import Derived.ChangeOld
import Derived.Lay
import Derived.LaidOnce
import Derived.SevenTiedAt
import Derived.Test.YtbijdmihdagfaaaGreatDoorCG1ox04d685
import Derived.Test.YtbijdmihdagfaaaGreatDoorCFKernelSequentsoxd097e2
import Derived.Test.YtbijdmihdagfaaaGreatDoorCGoeoxb4cd35
set_option linter.all false
namespace Go.Proofs.YtbijdmihdagfaaaGreatDoor
open Go Go.Proofs Go.ChangeShapes Go.WideShapes Go.ChangeAt Go.RowKit
theorem own:ownKnob Tryz.prog.godebug=none:=by kernel_rfl
set_option maxRecDepth 100000 in
theorem Nr(a b:Abs.S_api_Sequent)(h0:Abs.QS a)(h1:Abs.QS b):Abs.aR Tryz.prog 3 [.agg (Abs.cK a),.agg (Abs.cK b)] [] (.bool true) []:=by
 obtain⟨n,hn⟩:=Abs.Pw a b h0 h1;obtain⟨⟨acs,ads⟩,ahs,⟨aop,anm,am,⟨ak,atn,aks⟩,akids⟩⟩:=a;obtain⟨⟨bcs,bds⟩,bhs,⟨bop,bnm,bm,⟨bk,btn,bks⟩,bkids⟩⟩:=b;have h:=(Abs.OZ n).2.2 (acs,ads,ahs,aop,anm,am,ak,atn,aks,akids,bcs,bds,bhs,bop,bnm,bm,bk,btn,bks,bkids) true (hn n (qAr n)) _ _ rfl;have:=h _ _ rfl;simp only[Abs.cK,Abs.jM];exact this
set_option maxRecDepth 100000 in
theorem Lp(os:Os)(started:os.Started)(H:Type)(enc:TypeId×Value→H):
  ReturnsInHanded {} Tryz.checked os 3 .any (fun w args=>(Rows.kernelSequentsSpec.pre enc Tryz.prog Tryz.f3 [] false w args∧laidMetH Tryz.prog Rows.kernelSequentsRow.laid w)∧sizedMet enc Tryz.prog Tryz.f3 (OpenSpec.ofChange Rows.kernelSequentsSpec) false w args)
   (Rows.kernelSequentsSpec.post enc Tryz.prog Tryz.f3 false true false false):=by
 refine returnsInHanded_of_change_and (C:=Tryz.checked) (X:=fun w _=>laidMetH Tryz.prog Rows.kernelSequentsRow.laid w) (fun _ _ _ hh h=>h.of_heap hh) own started (by kernel_rfl) Tryz.func3
  (ChangeSpec.witness_shaped (enc:=enc) (C:=Tryz.checked) (os:=os) (X:=fun w _=>laidMetH Tryz.prog Rows.kernelSequentsRow.laid w) false (World.laidAll Tryz.prog os Rows.kernelSequentsRow.laid) #[.agg #[.slice none 0 0,.slice none 0 0,.slice none 0 0,.int .i64 0,.string ⟨#[]⟩,.int .i64 0,.int .i64 0,.string ⟨#[]⟩,.slice none 0 0,.slice none 0 0],.agg #[.slice none 0 0,.slice none 0 0,.slice none 0 0,.int .i64 0,.string ⟨#[]⟩,.int .i64 0,.int .i64 0,.string ⟨#[]⟩,.slice none 0 0,.slice none 0 0]] 8 (World.laidAll_os _ _ _)
   (World.shaped_of_ZipB (by kernel_rfl) (by kernel_rfl)) (by kernel_rfl) (by kernel_rfl) (by kernel_rfl)
   (by rw[MakeChecks.laidMetH_plain _ _ _ (by kernel_rfl)];exact laidMet_laidAll _ (by kernel_rfl) (by kernel_rfl))) ?_
 intro W base args ds gs before hval0 hW _ _ _ _;have hval:∀(j:Nat) t v,Tryz.f3.params[j]? =some t→args[j]? =some v→Value.okWide Tryz.prog W .any base t v:=hval0;have hW':=hW;obtain⟨p,q,hA0,hV,rfl,hfz,hnd⟩:=hW;have hA:DataW.TrodAll enc Tryz.prog W 0 (fun _=>true) true Tryz.f3.params.toList args.toList ds p:=hA0;rw[Tryz.params3]at hA hval;obtain⟨v0,vs0,d0,ds0,p0,q0,hargs,rfl,rfl,a0,r0⟩:=trodAll_cons hA;obtain⟨v1,vs1,d1,ds1,p1,q1,rfl,rfl,rfl,a1,r1⟩:=trodAll_cons r0;obtain⟨rfl,rfl,rfl⟩:=trodAll_nil r1;obtain rfl:args=#[v0,v1]:=by cases args;simp_all
 obtain⟨rfl,rfl⟩:=trodVars_none hV;obtain⟨a,e0⟩:=Abs.Dz (κ:=[]) (pv:=Abs.aG (fun _ _=>False) [] []) Tryz.underlying33 (hval 0 33 v0 rfl rfl) a0 (Abs.Du Abs.aB);obtain⟨b,e1⟩:=Abs.Dz (κ:=[]) (pv:=Abs.aG (fun _ _=>False) [] []) Tryz.underlying33 (hval 1 33 v1 rfl rfl) a1 (Abs.Du Abs.aB);have lt0:∀x∈p0,x.block<W.heap.size:=by obtain⟨m,hm⟩:=a0;exact DataW.trod_lt m _ _ _ hm
 have lt1:∀x∈p1,x.block<W.heap.size:=by obtain⟨m,hm⟩:=a1;exact DataW.trod_lt m _ _ _ hm
 clear hA0 hval0;have hcall:=Abs.aeE (vs:=[v0,v1]) (w:=W) (Nr a b (Abs.Dg e0) (Abs.Dg e1)) rfl (fun j hj=>by
  match j,hj with
  |0,_=>exact e0
  |1,_=>exact e1)
 refine hcall.mono fun e W' ⟨he,bel⟩=>?_;subst he;exact⟨_,rfl,_,_,_,[],_,[],hW',trodAll_mk1 (shut_bool Tryz.underlying4 _),(trodAll_cons_mk (Below.trod Abs.laidOut (by kernel_rfl) (of_decide_eq_true (by kernel_rfl)) a0 bel lt0) (trodAll_cons_mk (Below.trod Abs.laidOut (by kernel_rfl) (of_decide_eq_true (by kernel_rfl)) a1 bel lt1) trodAll_mk0)),rfl,bel.frame _,fun h=>by cases h⟩
theorem PV:Rows.KernelSequentsSaid:=
 OpenClaim.holds_of_wide 3 Tryz.f3 rfl rfl rfl rfl rfl rfl rfl ⟨rfl,rfl,rfl,rfl,rfl⟩ rfl rfl rfl rfl rfl M6 Tryz.func3 Na Pm OV
  (fun os started H enc _=>Lp os started H enc)
theorem Tv:Rows.kernelSequentsRow.wfByText (OpenSpec.ofChange Rows.kernelSequentsSpec)=true:=by kernel_rfl
theorem OY:Tryz.pinned.checked.prog.mainIs=some (true, "5c94d3d194f591e8aa9dbbfeaab3e1bf3ff4340d71022215a78f5077d8d34a2b".toList):=by kernel_rfl
theorem O1:Tryz.prog.funcNamed "refinement/refinementlaw04.KernelSequents" =some 3:=by kernel_rfl
theorem ND:true=Tryz.pinned.checked.prog.looks []:=by kernel_rfl
theorem O4:false=Rows.kernelSequentsRow.goesBy Tryz.pinned.checked.prog:=aec _ rfl
theorem MB:([33,33].all fun u=>!Tryz.prog.wantsStandIn u)=true:=by kernel_rfl
theorem MK:∀f fn,Tryz.pinned.checked.prog.funcNamed Rows.kernelSequentsRow.func=some f→Tryz.pinned.checked.prog.funcs[f]? =some fn→true=Tryz.pinned.checked.prog.looks []∧∀(j:Nat) t,fn.params[j]? =some t→Tryz.pinned.checked.prog.wantsStandIn t=false:=by
 intro f fn hf hfn;obtain rfl:f=3:=Option.some.inj (O1.symm.trans hf) |>.symm
 obtain rfl:fn=Tryz.f3:=(Option.some.inj (Tryz.func3.symm.trans hfn)).symm;exact⟨ND,fun j t ht=>by
  rw[Tryz.params3]at ht;have hm:t∈[33,33]:=by simpa using qDt ht
  exact(show Tryz.prog.wantsStandIn t=false by simpa using qAC.1 MB t hm)⟩
theorem KernelSequents_holds:Rows.KernelSequentsCardSaid:=
 Claim7.holds_tied_plain_at .later [] [.data,.data,.data,.data,.pinned] true (true, "5c94d3d194f591e8aa9dbbfeaab3e1bf3ff4340d71022215a78f5077d8d34a2b") true
  PV (fun _ h=>by cases h) Tv (fun _ h=>by cases h) kernelSequents_row_tie rfl ⟨rfl,rfl⟩ OY rfl MK O4
#print axioms KernelSequents_holds
end Go.Proofs.YtbijdmihdagfaaaGreatDoor

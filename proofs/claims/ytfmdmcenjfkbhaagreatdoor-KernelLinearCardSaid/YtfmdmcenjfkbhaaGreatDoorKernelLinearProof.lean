/-
  KernelLinear holds: for all arguments the law returns true, and each argument reads afterwards as it read before; and its tied card. Conditions: none.
-/
import Derived.Test.YtfmdmcenjfkbhaaGreatDoorCards
import Derived.Test.YtfmdmcenjfkbhaaGreatDoorTie
import Derived.WalkKit
import Derived.OpenShut
import Derived.ShutString
import Derived.ChangeOld
import Derived.Lay
import Derived.LaidOnce
import Derived.SevenTiedAt
import Derived.Test.YtfmdmcenjfkbhaaGreatDoorCG1ox71260b
import Derived.Test.YtfmdmcenjfkbhaaGreatDoorCP88ox011fc0
import Derived.Test.YtfmdmcenjfkbhaaGreatDoorCFKernelLinearox08dcbc
import Derived.Test.YtfmdmcenjfkbhaaGreatDoorCGoeox3fdbe7
set_option linter.all false
namespace Go.Proofs.YtfmdmcenjfkbhaaGreatDoor
open Go Go.Proofs Go.ChangeShapes Go.WideShapes Go.ChangeAt Go.RowKit
theorem own:ownKnob Tryz.prog.godebug=none:=by kernel_rfl
set_option maxRecDepth 100000 in
theorem Fx(t:Abs.Tm)(h0:Abs.mq t):Abs.aP Tryz.prog 3 [.agg (Abs.gV t)] [] (.bool true) []:=by
 obtain⟨n,hn⟩:=Abs.JX t h0;have h:=(Abs.Ht n).2.2 (t) true (hn n (qAq n)) _ _ rfl;have:=h _ _ rfl;exact this
set_option maxRecDepth 100000 in
theorem ED(os:Os)(started:os.Started)(H:Type)(enc:TypeId×Value→H):
  ReturnsInHanded {} Tryz.checked os 3 .any (fun w args=>(Rows.kernelLinearSpec.pre enc Tryz.prog Tryz.f3 [] false w args∧laidMetH Tryz.prog Rows.kernelLinearRow.laid w)∧sizedMet enc Tryz.prog Tryz.f3 (OpenSpec.ofChange Rows.kernelLinearSpec) false w args)
   (Rows.kernelLinearSpec.post enc Tryz.prog Tryz.f3 false true false false):=by
 refine returnsInHanded_of_change_and (C:=Tryz.checked) (X:=fun w _=>laidMetH Tryz.prog Rows.kernelLinearRow.laid w) (fun _ _ _ hh h=>h.of_heap hh) own started (by kernel_rfl) Tryz.func3
  (ChangeSpec.witness_shaped (enc:=enc) (C:=Tryz.checked) (os:=os) (X:=fun w _=>laidMetH Tryz.prog Rows.kernelLinearRow.laid w) false (World.laidAll Tryz.prog os Rows.kernelLinearRow.laid) #[.agg #[.int .i64 0,.string ⟨#[]⟩,.int .i64 0,.int .i64 0,.string ⟨#[]⟩,.slice none 0 0,.slice none 0 0]] 8 (World.laidAll_os _ _ _)
   (World.shaped_of_ZipB (by kernel_rfl) (by kernel_rfl)) (by kernel_rfl) (by kernel_rfl) (by kernel_rfl)
   (by rw[MakeChecks.laidMetH_plain _ _ _ (by kernel_rfl)];exact laidMet_laidAll _ (by kernel_rfl) (by kernel_rfl))) ?_
 intro W base args ds gs before hval0 hW _ _ _ _;have hval:∀(j:Nat) t v,Tryz.f3.params[j]? =some t→args[j]? =some v→Value.okWide Tryz.prog W .any base t v:=hval0;have hW':=hW;obtain⟨p,q,hA0,hV,rfl,hfz,hnd⟩:=hW;have hA:DataW.TrodAll enc Tryz.prog W 0 (fun _=>true) true Tryz.f3.params.toList args.toList ds p:=hA0;rw[Tryz.params3]at hA hval;obtain⟨v0,vs0,d0,ds0,p0,q0,hargs,rfl,rfl,a0,r0⟩:=trodAll_cons hA;obtain⟨rfl,rfl,rfl⟩:=trodAll_nil r0;obtain rfl:args=#[v0]:=by cases args;simp_all
 obtain⟨rfl,rfl⟩:=trodVars_none hV;obtain⟨t,e0⟩:=Abs.Zy (κ:=[]) (pv:=Abs.aC (fun _ _=>False) [] []) Tryz.underlying27 (hval 0 27 v0 rfl rfl) a0 (Abs.aa2 Abs.ak);have lt0:∀x∈p0,x.block<W.heap.size:=by obtain⟨m,hm⟩:=a0;exact DataW.trod_lt m _ _ _ hm
 clear hA0 hval0;have hcall:=Abs.aaQ (vs:=[v0]) (w:=W) (Fx t (Abs.aaq e0)) rfl (fun j hj=>by
  match j,hj with
  |0,_=>exact e0)
 refine hcall.mono fun e W' ⟨he,bel⟩=>?_;subst he;exact⟨_,rfl,_,_,_,[],_,[],hW',trodAll_mk1 (shut_bool Tryz.underlying4 _),(trodAll_cons_mk (Below.trod Abs.laidOut (by kernel_rfl) (of_decide_eq_true (by kernel_rfl)) a0 bel lt0) trodAll_mk0),rfl,bel.frame _,fun h=>by cases h⟩
theorem JD:Rows.KernelLinearSaid:=
 OpenClaim.holds_of_wide 3 Tryz.f3 rfl rfl rfl rfl rfl rfl rfl ⟨rfl,rfl,rfl,rfl,rfl⟩ rfl rfl rfl rfl rfl EP Tryz.func3 Fp Hl Hy
  (fun os started H enc _=>ED os started H enc)
theorem KS:Rows.kernelLinearRow.wfByText (OpenSpec.ofChange Rows.kernelLinearSpec)=true:=by kernel_rfl
theorem Hw:Tryz.pinned.checked.prog.mainIs=some (true, "645cd2f68c5f5af0a5210576b7b3685ef2f9592e160b7491e83d927f893c8201".toList):=by kernel_rfl
theorem Hg:Tryz.prog.funcNamed "refinement/refinementlaw04.KernelLinear" =some 3:=by kernel_rfl
theorem Gr:true=Tryz.pinned.checked.prog.looks []:=by kernel_rfl
theorem Hr:false=Rows.kernelLinearRow.goesBy Tryz.pinned.checked.prog:=aaB _ rfl
theorem FM:([27].all fun u=>!Tryz.prog.wantsStandIn u)=true:=by kernel_rfl
theorem FJ:∀f fn,Tryz.pinned.checked.prog.funcNamed Rows.kernelLinearRow.func=some f→Tryz.pinned.checked.prog.funcs[f]? =some fn→true=Tryz.pinned.checked.prog.looks []∧∀(j:Nat) t,fn.params[j]? =some t→Tryz.pinned.checked.prog.wantsStandIn t=false:=by
 intro f fn hf hfn;obtain rfl:f=3:=Option.some.inj (Hg.symm.trans hf) |>.symm
 obtain rfl:fn=Tryz.f3:=(Option.some.inj (Tryz.func3.symm.trans hfn)).symm;exact⟨Gr,fun j t ht=>by
  rw[Tryz.params3]at ht;have hm:t∈[27]:=by simpa using qDg ht
  exact(show Tryz.prog.wantsStandIn t=false by simpa using qAG.1 FM t hm)⟩
theorem KernelLinear_holds:Rows.KernelLinearCardSaid:=
 Claim7.holds_tied_plain_at .later [] [.data,.data,.data,.data,.pinned] true (true, "645cd2f68c5f5af0a5210576b7b3685ef2f9592e160b7491e83d927f893c8201") true
  JD (fun _ h=>by cases h) KS (fun _ h=>by cases h) kernelLinear_row_tie rfl ⟨rfl,rfl⟩ Hw rfl FJ Hr
#print axioms KernelLinear_holds
end Go.Proofs.YtfmdmcenjfkbhaaGreatDoor

/-
  KernelWithin holds: for all arguments the law returns true, and each argument reads afterwards as it read before; and its tied card. Conditions: none.
-/
import Derived.Test.YtbijdmihdagfaaaGreatDoorCards
import Derived.Test.YtbijdmihdagfaaaGreatDoorTie
import Derived.WalkKit
import Derived.OpenShut
import Derived.ShutString
import Derived.ChangeOld
import Derived.Lay
import Derived.LaidOnce
import Derived.SevenTiedAt
import Derived.Test.YtbijdmihdagfaaaGreatDoorCG1ox316f7e
import Derived.Test.YtbijdmihdagfaaaGreatDoorCFKernelWithinoxf3bc11
import Derived.Test.YtbijdmihdagfaaaGreatDoorCGoeoxb4cd35
set_option linter.all false
namespace Go.Proofs.YtbijdmihdagfaaaGreatDoor
open Go Go.Proofs Go.ChangeShapes Go.WideShapes Go.ChangeAt Go.RowKit
theorem own:ownKnob Tryz.prog.godebug=none:=by kernel_rfl
set_option maxRecDepth 100000 in
theorem PG(a b c:Abs.S_api_Sequent)(h0:Abs.QS a)(h1:Abs.QS b)(h2:Abs.QS c):Abs.aR Tryz.prog 4 [.agg (Abs.cK a),.agg (Abs.cK b),.agg (Abs.cK c)] [] (.bool true) []:=by
 obtain⟨n,hn⟩:=Abs.U0 a b c h0 h1 h2;obtain⟨⟨acs,ads⟩,ahs,⟨aop,anm,am,⟨ak,atn,aks⟩,akids⟩⟩:=a;obtain⟨⟨bcs,bds⟩,bhs,⟨bop,bnm,bm,⟨bk,btn,bks⟩,bkids⟩⟩:=b;obtain⟨⟨ccs,cds⟩,chs,⟨cop,cnm,cm,⟨ck,ctn,cks⟩,ckids⟩⟩:=c;have h:=(Abs.Ta n).2.2 (acs,ads,ahs,aop,anm,am,ak,atn,aks,akids,bcs,bds,bhs,bop,bnm,bm,bk,btn,bks,bkids,ccs,cds,chs,cop,cnm,cm,ck,ctn,cks,ckids) true (hn n (qAr n)) _ _ rfl;have:=h _ _ rfl;simp only[Abs.cK,Abs.jM];exact this
set_option maxRecDepth 100000 in
theorem Pk(os:Os)(started:os.Started)(H:Type)(enc:TypeId×Value→H):
  ReturnsInHanded {} Tryz.checked os 4 .any (fun w args=>(Rows.kernelWithinSpec.pre enc Tryz.prog Tryz.f4 [] false w args∧laidMetH Tryz.prog Rows.kernelWithinRow.laid w)∧sizedMet enc Tryz.prog Tryz.f4 (OpenSpec.ofChange Rows.kernelWithinSpec) false w args)
   (Rows.kernelWithinSpec.post enc Tryz.prog Tryz.f4 false true false false):=by
 refine returnsInHanded_of_change_and (C:=Tryz.checked) (X:=fun w _=>laidMetH Tryz.prog Rows.kernelWithinRow.laid w) (fun _ _ _ hh h=>h.of_heap hh) own started (by kernel_rfl) Tryz.func4
  (ChangeSpec.witness_shaped (enc:=enc) (C:=Tryz.checked) (os:=os) (X:=fun w _=>laidMetH Tryz.prog Rows.kernelWithinRow.laid w) false (World.laidAll Tryz.prog os Rows.kernelWithinRow.laid) #[.agg #[.slice none 0 0,.slice none 0 0,.slice none 0 0,.int .i64 0,.string ⟨#[]⟩,.int .i64 0,.int .i64 0,.string ⟨#[]⟩,.slice none 0 0,.slice none 0 0],.agg #[.slice none 0 0,.slice none 0 0,.slice none 0 0,.int .i64 0,.string ⟨#[]⟩,.int .i64 0,.int .i64 0,.string ⟨#[]⟩,.slice none 0 0,.slice none 0 0],.agg #[.slice none 0 0,.slice none 0 0,.slice none 0 0,.int .i64 0,.string ⟨#[]⟩,.int .i64 0,.int .i64 0,.string ⟨#[]⟩,.slice none 0 0,.slice none 0 0]] 8 (World.laidAll_os _ _ _)
   (World.shaped_of_ZipB (by kernel_rfl) (by kernel_rfl)) (by kernel_rfl) (by kernel_rfl) (by kernel_rfl)
   (by rw[MakeChecks.laidMetH_plain _ _ _ (by kernel_rfl)];exact laidMet_laidAll _ (by kernel_rfl) (by kernel_rfl))) ?_
 intro W base args ds gs before hval0 hW _ _ _ _;have hval:∀(j:Nat) t v,Tryz.f4.params[j]? =some t→args[j]? =some v→Value.okWide Tryz.prog W .any base t v:=hval0;have hW':=hW;obtain⟨p,q,hA0,hV,rfl,hfz,hnd⟩:=hW;have hA:DataW.TrodAll enc Tryz.prog W 0 (fun _=>true) true Tryz.f4.params.toList args.toList ds p:=hA0;rw[Tryz.params4]at hA hval;obtain⟨v0,vs0,d0,ds0,p0,q0,hargs,rfl,rfl,a0,r0⟩:=trodAll_cons hA;obtain⟨v1,vs1,d1,ds1,p1,q1,rfl,rfl,rfl,a1,r1⟩:=trodAll_cons r0;obtain⟨v2,vs2,d2,ds2,p2,q2,rfl,rfl,rfl,a2,r2⟩:=trodAll_cons r1;obtain⟨rfl,rfl,rfl⟩:=trodAll_nil r2;obtain rfl:args=#[v0,v1,v2]:=by cases args;simp_all
 obtain⟨rfl,rfl⟩:=trodVars_none hV;obtain⟨a,e0⟩:=Abs.Dz (κ:=[]) (pv:=Abs.aG (fun _ _=>False) [] []) Tryz.underlying33 (hval 0 33 v0 rfl rfl) a0 (Abs.Du Abs.aB);obtain⟨b,e1⟩:=Abs.Dz (κ:=[]) (pv:=Abs.aG (fun _ _=>False) [] []) Tryz.underlying33 (hval 1 33 v1 rfl rfl) a1 (Abs.Du Abs.aB);obtain⟨c,e2⟩:=Abs.Dz (κ:=[]) (pv:=Abs.aG (fun _ _=>False) [] []) Tryz.underlying33 (hval 2 33 v2 rfl rfl) a2 (Abs.Du Abs.aB);have lt0:∀x∈p0,x.block<W.heap.size:=by obtain⟨m,hm⟩:=a0;exact DataW.trod_lt m _ _ _ hm
 have lt1:∀x∈p1,x.block<W.heap.size:=by obtain⟨m,hm⟩:=a1;exact DataW.trod_lt m _ _ _ hm
 have lt2:∀x∈p2,x.block<W.heap.size:=by obtain⟨m,hm⟩:=a2;exact DataW.trod_lt m _ _ _ hm
 clear hA0 hval0;have hcall:=Abs.aeE (vs:=[v0,v1,v2]) (w:=W) (PG a b c (Abs.Dg e0) (Abs.Dg e1) (Abs.Dg e2)) rfl (fun j hj=>by
  match j,hj with
  |0,_=>exact e0
  |1,_=>exact e1
  |2,_=>exact e2)
 refine hcall.mono fun e W' ⟨he,bel⟩=>?_;subst he;exact⟨_,rfl,_,_,_,[],_,[],hW',trodAll_mk1 (shut_bool Tryz.underlying4 _),(trodAll_cons_mk (Below.trod Abs.laidOut (by kernel_rfl) (of_decide_eq_true (by kernel_rfl)) a0 bel lt0) (trodAll_cons_mk (Below.trod Abs.laidOut (by kernel_rfl) (of_decide_eq_true (by kernel_rfl)) a1 bel lt1) (trodAll_cons_mk (Below.trod Abs.laidOut (by kernel_rfl) (of_decide_eq_true (by kernel_rfl)) a2 bel lt2) trodAll_mk0))),rfl,bel.frame _,fun h=>by cases h⟩
theorem Vh:Rows.KernelWithinSaid:=
 OpenClaim.holds_of_wide 4 Tryz.f4 rfl rfl rfl rfl rfl rfl rfl ⟨rfl,rfl,rfl,rfl,rfl⟩ rfl rfl rfl rfl rfl Qy Tryz.func4 QL SV Tt
  (fun os started H enc _=>Pk os started H enc)
theorem WL:Rows.kernelWithinRow.wfByText (OpenSpec.ofChange Rows.kernelWithinSpec)=true:=by kernel_rfl
theorem Ti:Tryz.pinned.checked.prog.mainIs=some (true, "5c94d3d194f591e8aa9dbbfeaab3e1bf3ff4340d71022215a78f5077d8d34a2b".toList):=by kernel_rfl
theorem Tg:Tryz.prog.funcNamed "refinement/refinementlaw04.KernelWithin" =some 4:=by kernel_rfl
theorem Qm:true=Tryz.pinned.checked.prog.looks []:=by kernel_rfl
theorem Tj:false=Rows.kernelWithinRow.goesBy Tryz.pinned.checked.prog:=aec _ rfl
theorem Rq:([33,33,33].all fun u=>!Tryz.prog.wantsStandIn u)=true:=by kernel_rfl
theorem QV:∀f fn,Tryz.pinned.checked.prog.funcNamed Rows.kernelWithinRow.func=some f→Tryz.pinned.checked.prog.funcs[f]? =some fn→true=Tryz.pinned.checked.prog.looks []∧∀(j:Nat) t,fn.params[j]? =some t→Tryz.pinned.checked.prog.wantsStandIn t=false:=by
 intro f fn hf hfn;obtain rfl:f=4:=Option.some.inj (Tg.symm.trans hf) |>.symm
 obtain rfl:fn=Tryz.f4:=(Option.some.inj (Tryz.func4.symm.trans hfn)).symm;exact⟨Qm,fun j t ht=>by
  rw[Tryz.params4]at ht;have hm:t∈[33,33,33]:=by simpa using qDt ht
  exact(show Tryz.prog.wantsStandIn t=false by simpa using qAC.1 Rq t hm)⟩
theorem KernelWithin_holds:Rows.KernelWithinCardSaid:=
 Claim7.holds_tied_plain_at .later [] [.data,.data,.data,.data,.pinned] true (true, "5c94d3d194f591e8aa9dbbfeaab3e1bf3ff4340d71022215a78f5077d8d34a2b") true
  Vh (fun _ h=>by cases h) WL (fun _ h=>by cases h) kernelWithin_row_tie rfl ⟨rfl,rfl⟩ Ti rfl QV Tj
#print axioms KernelWithin_holds
end Go.Proofs.YtbijdmihdagfaaaGreatDoor

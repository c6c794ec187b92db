/-
  A run that awake asks for. Conditions: none.
-/
import Derived.KernelRfl
import Derived.Test.YtfmdmcenjfkbhaaGreatDoorCAw1oxcf8bc3
import Derived.Test.YtfmdmcenjfkbhaaGreatDoorCAw2ox9ca87b
import Derived.Test.YtfmdmcenjfkbhaaGreatDoorCAw6ox0e4cbb
import Derived.Test.YtfmdmcenjfkbhaaGreatDoorCP1ox3d6ef5
import Derived.Test.YtfmdmcenjfkbhaaGreatDoorCDfoxe758df
set_option linter.all false
namespace Go.Proofs.YtfmdmcenjfkbhaaGreatDoor
namespace Abs
section
open Go Go.Proofs
def k7:Known:=⟨33,[.str [120,32,60,32,121,32,38,32,120,32,60,61,32,121]],[],.tup [.agg [.int .i64 4,.str [],.int .i64 0,.int .i64 0,.str [],.slice [] .nils,.slice [[.int .i64 12,.str [],.int .i64 0,.int .i64 0,.str [],.slice [] .shared,.slice [[.int .i64 20,.str [120],.int .i64 0,.int .i64 0,.str [],.slice [] .shared,.slice [] .shared],[.int .i64 20,.str [121],.int .i64 0,.int .i64 0,.str [],.slice [] .shared,.slice [] .shared]] .shared],[.int .i64 13,.str [],.int .i64 0,.int .i64 0,.str [],.slice [] .shared,.slice [[.int .i64 20,.str [120],.int .i64 0,.int .i64 0,.str [],.slice [] .shared,.slice [] .shared],[.int .i64 20,.str [121],.int .i64 0,.int .i64 0,.str [],.slice [] .shared,.slice [] .shared]] .shared]] (.tip 0 7)],.int .i64 0,.int .i64 0],[.tip 14]⟩
theorem aed:runK [] k7.f k7.args k7.H=some (k7.res,k7.H'):=by kernel_rfl
theorem agL:aP Tryz.prog k7.f k7.args k7.H k7.res k7.H':=jQ (m:=[]) (fun _ h=>by cases h) aed
def k8:Known:=⟨34,[.agg [.slice [] .nils,.slice [[.str [120],.int .i64 1,.str [],.slice [] .shared],[.str [121],.int .i64 1,.str [],.slice [] .shared]] (.tip 0 4),.slice [[.int .i64 12,.str [],.int .i64 0,.int .i64 0,.str [],.slice [] .shared,.slice [[.int .i64 20,.str [120],.int .i64 0,.int .i64 0,.str [],.slice [] .shared,.slice [] .shared],[.int .i64 20,.str [121],.int .i64 0,.int .i64 0,.str [],.slice [] .shared,.slice [] .shared]] .shared]] (.tip 1 7),.int .i64 4,.str [],.int .i64 0,.int .i64 0,.str [],.slice [] .nils,.slice [[.int .i64 12,.str [],.int .i64 0,.int .i64 0,.str [],.slice [] .shared,.slice [[.int .i64 20,.str [120],.int .i64 0,.int .i64 0,.str [],.slice [] .shared,.slice [] .shared],[.int .i64 20,.str [121],.int .i64 0,.int .i64 0,.str [],.slice [] .shared,.slice [] .shared]] .shared],[.int .i64 13,.str [],.int .i64 0,.int .i64 0,.str [],.slice [] .shared,.slice [[.int .i64 20,.str [120],.int .i64 0,.int .i64 0,.str [],.slice [] .shared,.slice [] .shared],[.int .i64 20,.str [121],.int .i64 0,.int .i64 0,.str [],.slice [] .shared,.slice [] .shared]] .shared]] (.tip 2 7)]],[.tip 8,.tip 7,.tip 14],.int .i64 0,[.tip 8,.tip 7,.tip 14]⟩
theorem adW:runK [] k8.f k8.args k8.H=some (k8.res,k8.H'):=by kernel_rfl
theorem ag4:aP Tryz.prog k8.f k8.args k8.H k8.res k8.H':=jQ (m:=[]) (fun _ h=>by cases h) adW
def k9:Known:=⟨109,[.ptr 0 0],[.box [.slice [] .nils,.slice [[.str [120],.int .i64 1,.str [],.slice [] .shared],[.str [121],.int .i64 1,.str [],.slice [] .shared]] (.tip 1 4),.slice [[.int .i64 12,.str [],.int .i64 0,.int .i64 0,.str [],.slice [] .shared,.slice [[.int .i64 20,.str [120],.int .i64 0,.int .i64 0,.str [],.slice [] .shared,.slice [] .shared],[.int .i64 20,.str [121],.int .i64 0,.int .i64 0,.str [],.slice [] .shared,.slice [] .shared]] .shared]] (.tip 2 7),.int .i64 4,.str [],.int .i64 0,.int .i64 0,.str [],.slice [] .nils,.slice [[.int .i64 12,.str [],.int .i64 0,.int .i64 0,.str [],.slice [] .shared,.slice [[.int .i64 20,.str [120],.int .i64 0,.int .i64 0,.str [],.slice [] .shared,.slice [] .shared],[.int .i64 20,.str [121],.int .i64 0,.int .i64 0,.str [],.slice [] .shared,.slice [] .shared]] .shared],[.int .i64 13,.str [],.int .i64 0,.int .i64 0,.str [],.slice [] .shared,.slice [[.int .i64 20,.str [120],.int .i64 0,.int .i64 0,.str [],.slice [] .shared,.slice [] .shared],[.int .i64 20,.str [121],.int .i64 0,.int .i64 0,.str [],.slice [] .shared,.slice [] .shared]] .shared]] (.tip 3 7),.int .i64 6,.int .i64 0,.str [],.slice [] .nils,.slice [] .nils,.slice [] .nils,.psl 4 10 0],.tip 8,.tip 7,.tip 14,.arr 10 []],.tup [],[.box [.slice [] .nils,.slice [[.str [120],.int .i64 1,.str [],.slice [] .shared],[.str [121],.int .i64 1,.str [],.slice [] .shared]] (.tip 1 4),.slice [[.int .i64 12,.str [],.int .i64 0,.int .i64 0,.str [],.slice [] .shared,.slice [[.int .i64 20,.str [120],.int .i64 0,.int .i64 0,.str [],.slice [] .shared,.slice [] .shared],[.int .i64 20,.str [121],.int .i64 0,.int .i64 0,.str [],.slice [] .shared,.slice [] .shared]] .shared]] (.tip 2 7),.int .i64 4,.str [],.int .i64 0,.int .i64 0,.str [],.slice [] .nils,.slice [[.int .i64 12,.str [],.int .i64 0,.int .i64 0,.str [],.slice [] .shared,.slice [[.int .i64 20,.str [120],.int .i64 0,.int .i64 0,.str [],.slice [] .shared,.slice [] .shared],[.int .i64 20,.str [121],.int .i64 0,.int .i64 0,.str [],.slice [] .shared,.slice [] .shared]] .shared],[.int .i64 13,.str [],.int .i64 0,.int .i64 0,.str [],.slice [] .shared,.slice [[.int .i64 20,.str [120],.int .i64 0,.int .i64 0,.str [],.slice [] .shared,.slice [] .shared],[.int .i64 20,.str [121],.int .i64 0,.int .i64 0,.str [],.slice [] .shared,.slice [] .shared]] .shared]] (.tip 3 7),.int .i64 6,.int .i64 0,.str [],.slice [] .nils,.slice [] .nils,.slice [] .nils,.psl 5 10 2],.tip 8,.tip 7,.tip 14,.dead,.arr 10 [[.slice [] .shared,.slice [[.str [120],.int .i64 1,.str [],.slice [] .shared],[.str [121],.int .i64 1,.str [],.slice [] .shared]] .shared,.slice [[.int .i64 12,.str [],.int .i64 0,.int .i64 0,.str [],.slice [] .shared,.slice [[.int .i64 20,.str [120],.int .i64 0,.int .i64 0,.str [],.slice [] .shared,.slice [] .shared],[.int .i64 20,.str [121],.int .i64 0,.int .i64 0,.str [],.slice [] .shared,.slice [] .shared]] .shared]] .shared,.int .i64 12,.str [],.int .i64 0,.int .i64 0,.str [],.slice [] .shared,.slice [[.int .i64 20,.str [120],.int .i64 0,.int .i64 0,.str [],.slice [] .shared,.slice [] .shared],[.int .i64 20,.str [121],.int .i64 0,.int .i64 0,.str [],.slice [] .shared,.slice [] .shared]] .shared],[.slice [] .shared,.slice [[.str [120],.int .i64 1,.str [],.slice [] .shared],[.str [121],.int .i64 1,.str [],.slice [] .shared]] .shared,.slice [[.int .i64 12,.str [],.int .i64 0,.int .i64 0,.str [],.slice [] .shared,.slice [[.int .i64 20,.str [120],.int .i64 0,.int .i64 0,.str [],.slice [] .shared,.slice [] .shared],[.int .i64 20,.str [121],.int .i64 0,.int .i64 0,.str [],.slice [] .shared,.slice [] .shared]] .shared],[.int .i64 12,.str [],.int .i64 0,.int .i64 0,.str [],.slice [] .shared,.slice [[.int .i64 20,.str [120],.int .i64 0,.int .i64 0,.str [],.slice [] .shared,.slice [] .shared],[.int .i64 20,.str [121],.int .i64 0,.int .i64 0,.str [],.slice [] .shared,.slice [] .shared]] .shared]] .shared,.int .i64 13,.str [],.int .i64 0,.int .i64 0,.str [],.slice [] .shared,.slice [[.int .i64 20,.str [120],.int .i64 0,.int .i64 0,.str [],.slice [] .shared,.slice [] .shared],[.int .i64 20,.str [121],.int .i64 0,.int .i64 0,.str [],.slice [] .shared,.slice [] .shared]] .shared]]]⟩
theorem ae4:runK [] k9.f k9.args k9.H=some (k9.res,k9.H'):=by kernel_rfl
theorem agf:aP Tryz.prog k9.f k9.args k9.H k9.res k9.H':=jQ (m:=[]) (fun _ h=>by cases h) ae4
def k10:Known:=⟨35,[.agg [.slice [] .nils,.slice [[.str [120],.int .i64 1,.str [],.slice [] .shared],[.str [121],.int .i64 1,.str [],.slice [] .shared]] (.tip 0 4),.slice [[.int .i64 12,.str [],.int .i64 0,.int .i64 0,.str [],.slice [] .shared,.slice [[.int .i64 20,.str [120],.int .i64 0,.int .i64 0,.str [],.slice [] .shared,.slice [] .shared],[.int .i64 20,.str [121],.int .i64 0,.int .i64 0,.str [],.slice [] .shared,.slice [] .shared]] .shared]] (.tip 1 7),.int .i64 4,.str [],.int .i64 0,.int .i64 0,.str [],.slice [] .nils,.slice [[.int .i64 12,.str [],.int .i64 0,.int .i64 0,.str [],.slice [] .shared,.slice [[.int .i64 20,.str [120],.int .i64 0,.int .i64 0,.str [],.slice [] .shared,.slice [] .shared],[.int .i64 20,.str [121],.int .i64 0,.int .i64 0,.str [],.slice [] .shared,.slice [] .shared]] .shared],[.int .i64 13,.str [],.int .i64 0,.int .i64 0,.str [],.slice [] .shared,.slice [[.int .i64 20,.str [120],.int .i64 0,.int .i64 0,.str [],.slice [] .shared,.slice [] .shared],[.int .i64 20,.str [121],.int .i64 0,.int .i64 0,.str [],.slice [] .shared,.slice [] .shared]] .shared]] (.tip 2 7)],.agg [.int .i64 6,.int .i64 0,.str [],.slice [] .nils,.slice [] .nils,.slice [] .nils]],[.tip 8,.tip 7,.tip 14],.tup [.psl 3 10 2,.int .i64 0],[.tip 8,.tip 7,.tip 14,.arr 10 [[.slice [] .shared,.slice [[.str [120],.int .i64 1,.str [],.slice [] .shared],[.str [121],.int .i64 1,.str [],.slice [] .shared]] .shared,.slice [[.int .i64 12,.str [],.int .i64 0,.int .i64 0,.str [],.slice [] .shared,.slice [[.int .i64 20,.str [120],.int .i64 0,.int .i64 0,.str [],.slice [] .shared,.slice [] .shared],[.int .i64 20,.str [121],.int .i64 0,.int .i64 0,.str [],.slice [] .shared,.slice [] .shared]] .shared]] .shared,.int .i64 12,.str [],.int .i64 0,.int .i64 0,.str [],.slice [] .shared,.slice [[.int .i64 20,.str [120],.int .i64 0,.int .i64 0,.str [],.slice [] .shared,.slice [] .shared],[.int .i64 20,.str [121],.int .i64 0,.int .i64 0,.str [],.slice [] .shared,.slice [] .shared]] .shared],[.slice [] .shared,.slice [[.str [120],.int .i64 1,.str [],.slice [] .shared],[.str [121],.int .i64 1,.str [],.slice [] .shared]] .shared,.slice [[.int .i64 12,.str [],.int .i64 0,.int .i64 0,.str [],.slice [] .shared,.slice [[.int .i64 20,.str [120],.int .i64 0,.int .i64 0,.str [],.slice [] .shared,.slice [] .shared],[.int .i64 20,.str [121],.int .i64 0,.int .i64 0,.str [],.slice [] .shared,.slice [] .shared]] .shared],[.int .i64 12,.str [],.int .i64 0,.int .i64 0,.str [],.slice [] .shared,.slice [[.int .i64 20,.str [120],.int .i64 0,.int .i64 0,.str [],.slice [] .shared,.slice [] .shared],[.int .i64 20,.str [121],.int .i64 0,.int .i64 0,.str [],.slice [] .shared,.slice [] .shared]] .shared]] .shared,.int .i64 13,.str [],.int .i64 0,.int .i64 0,.str [],.slice [] .shared,.slice [[.int .i64 20,.str [120],.int .i64 0,.int .i64 0,.str [],.slice [] .shared,.slice [] .shared],[.int .i64 20,.str [121],.int .i64 0,.int .i64 0,.str [],.slice [] .shared,.slice [] .shared]] .shared]]]⟩
theorem adp:runK [k4,k9] k10.f k10.args k10.H=some (k10.res,k10.H'):=by kernel_rfl
theorem adK:aP Tryz.prog k10.f k10.args k10.H k10.res k10.H':=jQ (m:=[k4,k9]) (fun e h=>by
 rcases qAh.1 h with rfl|h
 ·exact ab9
 rcases qAh.1 h with rfl|h
 ·exact agf
 cases h) adp
def k11:Known:=⟨36,[.agg [.slice [] .shared,.slice [[.str [120],.int .i64 1,.str [],.slice [] .shared],[.str [121],.int .i64 1,.str [],.slice [] .shared]] .shared,.slice [[.int .i64 12,.str [],.int .i64 0,.int .i64 0,.str [],.slice [] .shared,.slice [[.int .i64 20,.str [120],.int .i64 0,.int .i64 0,.str [],.slice [] .shared,.slice [] .shared],[.int .i64 20,.str [121],.int .i64 0,.int .i64 0,.str [],.slice [] .shared,.slice [] .shared]] .shared]] .shared,.int .i64 12,.str [],.int .i64 0,.int .i64 0,.str [],.slice [] .shared,.slice [[.int .i64 20,.str [120],.int .i64 0,.int .i64 0,.str [],.slice [] .shared,.slice [] .shared],[.int .i64 20,.str [121],.int .i64 0,.int .i64 0,.str [],.slice [] .shared,.slice [] .shared]] .shared]],[],.agg [.slice [] .nils,.slice [[.str [120],.int .i64 1,.str [],.slice [] .shared],[.str [121],.int .i64 1,.str [],.slice [] .shared]] (.tip 0 4),.slice [[.int .i64 12,.str [],.int .i64 0,.int .i64 0,.str [],.slice [] .shared,.slice [[.int .i64 20,.str [120],.int .i64 0,.int .i64 0,.str [],.slice [] .shared,.slice [] .shared],[.int .i64 20,.str [121],.int .i64 0,.int .i64 0,.str [],.slice [] .shared,.slice [] .shared]] .shared]] (.tip 1 7),.int .i64 12,.str [],.int .i64 0,.int .i64 0,.str [],.slice [] .nils,.slice [[.int .i64 20,.str [120],.int .i64 0,.int .i64 0,.str [],.slice [] .shared,.slice [] .shared],[.int .i64 20,.str [121],.int .i64 0,.int .i64 0,.str [],.slice [] .shared,.slice [] .shared]] (.tip 2 7)],[.tip 8,.tip 7,.tip 14]⟩
theorem acp:runK [] k11.f k11.args k11.H=some (k11.res,k11.H'):=by kernel_rfl
theorem adU:aP Tryz.prog k11.f k11.args k11.H k11.res k11.H':=jQ (m:=[]) (fun _ h=>by cases h) acp
def k12:Known:=⟨36,[.agg [.slice [] .shared,.slice [[.str [120],.int .i64 1,.str [],.slice [] .shared],[.str [121],.int .i64 1,.str [],.slice [] .shared]] .shared,.slice [[.int .i64 12,.str [],.int .i64 0,.int .i64 0,.str [],.slice [] .shared,.slice [[.int .i64 20,.str [120],.int .i64 0,.int .i64 0,.str [],.slice [] .shared,.slice [] .shared],[.int .i64 20,.str [121],.int .i64 0,.int .i64 0,.str [],.slice [] .shared,.slice [] .shared]] .shared],[.int .i64 12,.str [],.int .i64 0,.int .i64 0,.str [],.slice [] .shared,.slice [[.int .i64 20,.str [120],.int .i64 0,.int .i64 0,.str [],.slice [] .shared,.slice [] .shared],[.int .i64 20,.str [121],.int .i64 0,.int .i64 0,.str [],.slice [] .shared,.slice [] .shared]] .shared]] .shared,.int .i64 13,.str [],.int .i64 0,.int .i64 0,.str [],.slice [] .shared,.slice [[.int .i64 20,.str [120],.int .i64 0,.int .i64 0,.str [],.slice [] .shared,.slice [] .shared],[.int .i64 20,.str [121],.int .i64 0,.int .i64 0,.str [],.slice [] .shared,.slice [] .shared]] .shared]],[],.agg [.slice [] .nils,.slice [[.str [120],.int .i64 1,.str [],.slice [] .shared],[.str [121],.int .i64 1,.str [],.slice [] .shared]] (.tip 0 4),.slice [[.int .i64 12,.str [],.int .i64 0,.int .i64 0,.str [],.slice [] .shared,.slice [[.int .i64 20,.str [120],.int .i64 0,.int .i64 0,.str [],.slice [] .shared,.slice [] .shared],[.int .i64 20,.str [121],.int .i64 0,.int .i64 0,.str [],.slice [] .shared,.slice [] .shared]] .shared],[.int .i64 12,.str [],.int .i64 0,.int .i64 0,.str [],.slice [] .shared,.slice [[.int .i64 20,.str [120],.int .i64 0,.int .i64 0,.str [],.slice [] .shared,.slice [] .shared],[.int .i64 20,.str [121],.int .i64 0,.int .i64 0,.str [],.slice [] .shared,.slice [] .shared]] .shared]] (.tip 1 7),.int .i64 13,.str [],.int .i64 0,.int .i64 0,.str [],.slice [] .nils,.slice [[.int .i64 20,.str [120],.int .i64 0,.int .i64 0,.str [],.slice [] .shared,.slice [] .shared],[.int .i64 20,.str [121],.int .i64 0,.int .i64 0,.str [],.slice [] .shared,.slice [] .shared]] (.tip 2 7)],[.tip 8,.tip 14,.tip 14]⟩
theorem ac8:runK [] k12.f k12.args k12.H=some (k12.res,k12.H'):=by kernel_rfl
theorem aeJ:aP Tryz.prog k12.f k12.args k12.H k12.res k12.H':=jQ (m:=[]) (fun _ h=>by cases h) ac8
def k13:Known:=⟨21,[.agg [.slice [] .nils,.slice [[.str [120],.int .i64 1,.str [],.slice [] .shared],[.str [121],.int .i64 1,.str [],.slice [] .shared]] (.tip 0 4),.slice [[.int .i64 12,.str [],.int .i64 0,.int .i64 0,.str [],.slice [] .shared,.slice [[.int .i64 20,.str [120],.int .i64 0,.int .i64 0,.str [],.slice [] .shared,.slice [] .shared],[.int .i64 20,.str [121],.int .i64 0,.int .i64 0,.str [],.slice [] .shared,.slice [] .shared]] .shared]] (.tip 1 7),.int .i64 4,.str [],.int .i64 0,.int .i64 0,.str [],.slice [] .nils,.slice [[.int .i64 12,.str [],.int .i64 0,.int .i64 0,.str [],.slice [] .shared,.slice [[.int .i64 20,.str [120],.int .i64 0,.int .i64 0,.str [],.slice [] .shared,.slice [] .shared],[.int .i64 20,.str [121],.int .i64 0,.int .i64 0,.str [],.slice [] .shared,.slice [] .shared]] .shared],[.int .i64 13,.str [],.int .i64 0,.int .i64 0,.str [],.slice [] .shared,.slice [[.int .i64 20,.str [120],.int .i64 0,.int .i64 0,.str [],.slice [] .shared,.slice [] .shared],[.int .i64 20,.str [121],.int .i64 0,.int .i64 0,.str [],.slice [] .shared,.slice [] .shared]] .shared]] (.tip 2 7)],.agg [.int .i64 6,.int .i64 0,.str [],.slice [] .nils,.slice [] .nils,.slice [] .nils]],[.tip 8,.tip 7,.tip 14],.tup [.slice [[.slice [] .shared,.slice [[.str [120],.int .i64 1,.str [],.slice [] .shared],[.str [121],.int .i64 1,.str [],.slice [] .shared]] .shared,.slice [[.int .i64 12,.str [],.int .i64 0,.int .i64 0,.str [],.slice [] .shared,.slice [[.int .i64 20,.str [120],.int .i64 0,.int .i64 0,.str [],.slice [] .shared,.slice [] .shared],[.int .i64 20,.str [121],.int .i64 0,.int .i64 0,.str [],.slice [] .shared,.slice [] .shared]] .shared]] .shared,.int .i64 12,.str [],.int .i64 0,.int .i64 0,.str [],.slice [] .shared,.slice [[.int .i64 20,.str [120],.int .i64 0,.int .i64 0,.str [],.slice [] .shared,.slice [] .shared],[.int .i64 20,.str [121],.int .i64 0,.int .i64 0,.str [],.slice [] .shared,.slice [] .shared]] .shared],[.slice [] .shared,.slice [[.str [120],.int .i64 1,.str [],.slice [] .shared],[.str [121],.int .i64 1,.str [],.slice [] .shared]] .shared,.slice [[.int .i64 12,.str [],.int .i64 0,.int .i64 0,.str [],.slice [] .shared,.slice [[.int .i64 20,.str [120],.int .i64 0,.int .i64 0,.str [],.slice [] .shared,.slice [] .shared],[.int .i64 20,.str [121],.int .i64 0,.int .i64 0,.str [],.slice [] .shared,.slice [] .shared]] .shared],[.int .i64 12,.str [],.int .i64 0,.int .i64 0,.str [],.slice [] .shared,.slice [[.int .i64 20,.str [120],.int .i64 0,.int .i64 0,.str [],.slice [] .shared,.slice [] .shared],[.int .i64 20,.str [121],.int .i64 0,.int .i64 0,.str [],.slice [] .shared,.slice [] .shared]] .shared]] .shared,.int .i64 13,.str [],.int .i64 0,.int .i64 0,.str [],.slice [] .shared,.slice [[.int .i64 20,.str [120],.int .i64 0,.int .i64 0,.str [],.slice [] .shared,.slice [] .shared],[.int .i64 20,.str [121],.int .i64 0,.int .i64 0,.str [],.slice [] .shared,.slice [] .shared]] .shared]] (.tip 3 10),.int .i64 0],[.tip 8,.tip 7,.tip 14,.tip 20]⟩
theorem ace:runK [k3,k5,k8,k10,k11,k12] k13.f k13.args k13.H=some (k13.res,k13.H'):=by kernel_rfl
theorem ad4:aP Tryz.prog k13.f k13.args k13.H k13.res k13.H':=jQ (m:=[k3,k5,k8,k10,k11,k12]) (fun e h=>by
 rcases qAh.1 h with rfl|h
 ·exact abA
 rcases qAh.1 h with rfl|h
 ·exact abM
 rcases qAh.1 h with rfl|h
 ·exact ag4
 rcases qAh.1 h with rfl|h
 ·exact adK
 rcases qAh.1 h with rfl|h
 ·exact adU
 rcases qAh.1 h with rfl|h
 ·exact aeJ
 cases h) ace
theorem Yo:runK [k1,k2,k6,k7,k13] 8 [] []=some (.bool true,[]):=by kernel_rfl
theorem TA:aP Tryz.prog 8 [] [] (.bool true) []:=jQ (m:=[k1,k2,k6,k7,k13]) (fun e h=>by
 rcases qAh.1 h with rfl|h
 ·exact agm
 rcases qAh.1 h with rfl|h
 ·exact agG
 rcases qAh.1 h with rfl|h
 ·exact ahs
 rcases qAh.1 h with rfl|h
 ·exact agL
 rcases qAh.1 h with rfl|h
 ·exact ad4
 cases h) Yo
theorem aha:gT Tryz.prog 8=true:=by kernel_rfl
theorem Xa(n:Nat):aF Tryz.prog TE (Wj n):=abG aha (by kernel_rfl) rfl fun x y h y' hy=>by
 cases hy;have e:true=y:=Option.some.inj h;subst e;exact TA
end
section
open Go Go.Proofs
set_option maxRecDepth 100000
theorem YA(n:Nat):aF Tryz.prog TE (NH n):=MKS n [(12,.jn [.r 3 .B] false),(51,.jn [.r 22 .B] false),(831,.jn [.r 40 .B] false)] .n @Tryz.func74
theorem Tg(n:Nat):aF Tryz.prog TE (HY n):=MKS n [(3,.jn [.r 2 .B] false)] .n @Tryz.func82
theorem ac6(n:Nat):aF Tryz.prog TE (Uq n):=MKS n [(26,.lp [.r 5 .I] 0 [])] .n @Tryz.func144
theorem Ru(n:Nat):aF Tryz.prog TE (Fq n):=MKS n [] (.c (ac6 n) .n) @Tryz.func83
theorem VT(n:Nat):aF Tryz.prog TE (La n):=MKS n [(3,.jn [.r 2 .B] false)] .n @Tryz.func84
theorem oU(n:Nat):aF Tryz.prog TE (Az n):=MKS n [(6,.jn [.r 21 .B] false),(58,.lp [.r 3 .I] 0 []),(932,.jn [.r 45 .B] false)] (.c (Tg n) (.c (Ru n) (.c (VT n) .n))) @Tryz.func77
theorem TD(n:Nat):aF Tryz.prog TE (Ir n):=MKS n [(3,.jn [.r 2 .B] false)] (.c (oU n) .n) @Tryz.func140
theorem VB(n:Nat):aF Tryz.prog TE (Kh n):=MKS n [(3,.jn [.r 2 .B] false)] (.c (oU n) (.c (TD n) .n)) @Tryz.func75
theorem Ic(n:Nat):aF Tryz.prog TE (Ip n):=MKS n [(3,.jn [.r 2 .B] false)] .n @Tryz.func76
theorem L8:∀n,aF Tryz.prog TE (Kk n)
 |0=>oQ (fn:=Tryz.f141) (by kernel_rfl) fun _=>rfl
 |n+1=>MKS n [(14,.jn [.r 25 .B] false),(31,.jn [.r 7 .I] true),(126,.jn [.r 61 .B] false),(250,.jn [.r 28 .B] false),(1018,.lp [.r 2 .I,.r 8 .I] 1 [.r 2 .I])] (.c (oU n) (.c (L8 n) .n)) @Tryz.func141
theorem Mh(n:Nat):aF Tryz.prog TE (BU n):=MKS n [] (.c (L8 n) .n) @Tryz.func78
theorem O1(n:Nat):aF Tryz.prog TE (Ej n):=MKS n [(3,.jn [.r 2 .B] false)] .n @Tryz.func79
theorem XV(n:Nat):aF Tryz.prog TE (Ou n):=MKS n [(14,.jn [.r 29 .B] false),(15,.jn [] true),(62,.jn [.r 72 .B] false),(506,.jn [.r 2 .B] false)] (.c (YA n) (.c (VB n) (.c (Ic n) (.c (oU n) (.c (Mh n) (.c (O1 n) .n)))))) @Tryz.func48
theorem KZ:∀n,aF Tryz.prog TE (J3 n)
 |0=>oQ (fn:=Tryz.f27) (by kernel_rfl) fun _=>rfl
 |n+1=>MKS n [(14,.jn [.r 20 .B] false),(122,.lp [.r 2 .I,.r 7 .I] 0 [.r 2 .I])] (.c (XV n) (.c (KZ n) .n)) @Tryz.func27
theorem KH(n:Nat):aF Tryz.prog TE (LZ n):=MKS n [] (.c (KZ n) .n) @Tryz.func15
theorem Wu(n:Nat):aF Tryz.prog TE (Lx n):=MKS n [(3,.jn [.r 2 .B] false)] .n @Tryz.func49
theorem zF(n:Nat):aF Tryz.prog TE (EY n):=mk n [(122,.lp [.r 5 .I,.o 2 (.bx [(0,.own 3),(1,.own 4)]),.w (.own .tm),.w (.own .i)] 0 [.o 2 (.bx [(0,.own 3),(1,.own 4)]),.w (.own .tm),.w (.own .i)]),(489,.jn [.o 2 (.bx [(0,.own 5),(1,.own 6)]),.w (.own .tm),.w (.own .i),.o 3 .dead,.o 4 .dead] true)] (e:=EY (n)) (inn:=fun y=>some ((S_refinementref04_form.mk y.1 y.2.1 y.2.2.1),y.2.2.2)) (.c (Wu n) .n) @Tryz.func28 (by kernel_rfl) (by intro z y h;first|(cases h;rfl)|(obtain⟨h1,h2⟩:=(aM h).resolve_right fun h=>(by cases h.2);cases h2;exact qCI (qBa.1 h1).symm rfl)|(obtain⟨h1,h2⟩:=(aM h).resolve_right fun h=>(by cases h.2);cases h2;obtain⟨z1,z2⟩:=z;cases z2;rfl;cases h1)|(simp only[cond]at h;split at h<;>cases h;simp_all)) fun _=>by kernel_rfl
theorem Tk(n:Nat):aF Tryz.prog TE (IB n):=mk n [(58,.lp [.r 7 .I,.o 2 (.bx [(1,.own 3)]),.w (.own .i)] 0 [.o 2 (.bx [(1,.own 3)]),.w (.own .i)])] (e:=IB (n)) (inn:=fun y=>some ((S_refinementref04_form.mk y.1 y.2.1 y.2.2.1),y.2.2.2)) (.c (zF n) .n) @Tryz.func29 (by kernel_rfl) (by intro z y h;first|(cases h;rfl)|(obtain⟨h1,h2⟩:=(aM h).resolve_right fun h=>(by cases h.2);cases h2;exact qCI (qBa.1 h1).symm rfl)|(obtain⟨h1,h2⟩:=(aM h).resolve_right fun h=>(by cases h.2);cases h2;obtain⟨z1,z2⟩:=z;cases z2;rfl;cases h1)|(simp only[cond]at h;split at h<;>cases h;simp_all)) fun _=>by kernel_rfl
theorem xu:∀n,aF Tryz.prog TE (En n)
 |0=>oQ (fn:=Tryz.f32) (by kernel_rfl) fun _=>rfl
 |n+1=>MKS n [(6,.jn [.r 26 .B] false),(58,.lp [.r 5 .I] 0 [])] (.c (xu n) .n) @Tryz.func32
theorem Yc(n:Nat):aF Tryz.prog TE (Oj n):=MKS n [(26,.lp [.r 5 .I] 0 [])] .n @Tryz.func142
theorem Y5(n:Nat):aF Tryz.prog TE (Oi n):=MKS n [] .n @Tryz.func143
theorem LK:∀n,aF Tryz.prog TE (Lc n)
 |0=>oQ (fn:=Tryz.f80) (by kernel_rfl) fun _=>rfl
 |n+1=>MKS n [(6,.jn [.r 42 .B] false),(117,.jn [.r 8 .B] false),(122,.lp [.r 11 .I] 0 []),(3913,.jn [.r 12 .Ls,.r 13 .Ls] false),(7826,.jn [.r 83 .B] false)] (.c (xu n) (.c (Yc n) (.c (Ic n) (.c (LK n) (.c (Y5 n) .n))))) @Tryz.func80
theorem Vt(n:Nat):aF Tryz.prog TE (Ls n):=MKS n [(3,.jn [.r 4 .B] false)] (.c (KH n) (.c (LK n) .n)) @Tryz.func50
theorem Xk(n:Nat):aF Tryz.prog TE (LQ n):=mk n [(30,.fz [9]),(58,.lp [.r 9 .I,.o 7 (.bx [(0,.own 8),(1,.psl 9 1)]),.w (.own .tm),.w (.arr .i),.o 0 .dead,.o 3 .dead,.o 4 .dead,.o 5 .dead,.o 6 .dead] 0 [.o 7 (.bx [(0,.own 8),(1,.psl 9 1)]),.w (.own .tm),.w (.arr .i),.o 0 .dead,.o 3 .dead,.o 4 .dead,.o 5 .dead,.o 6 .dead]),(233,.jn [.o 7 (.bx [(0,.own 10),(1,.psl 11 1)]),.w (.own .tm),.w (.arr .i),.o 8 .dead,.o 9 .dead] false),(14922,.lp [.r 10 .I,.r 11 .I] 2 [.r 10 .I]),(59689,.jn [.r 10 .I] false)] (e:=LQ (n)) (inn:=fun y=>some ((S_refinementref04_form.mk y.1 y.2.1 y.2.2.1),y.2.2.2)) (.c (Vt n) (.c (zF n) .n)) @Tryz.func30 (by kernel_rfl) (by intro z y h;first|(cases h;rfl)|(obtain⟨h1,h2⟩:=(aM h).resolve_right fun h=>(by cases h.2);cases h2;exact qCI (qBa.1 h1).symm rfl)|(obtain⟨h1,h2⟩:=(aM h).resolve_right fun h=>(by cases h.2);cases h2;obtain⟨z1,z2⟩:=z;cases z2;rfl;cases h1)|(simp only[cond]at h;split at h<;>cases h;simp_all)) fun _=>by kernel_rfl
theorem Il:∀n,aF Tryz.prog TE (Iu n)
 |0=>oQ (fn:=Tryz.f16) (by kernel_rfl) fun _=>rfl
 |n+1=>mk n [(235,.jn [.r 23 .B] false)] (e:=Iu (n+1)) (inn:=fun y=>some ((S_refinementref04_form.mk y.1 y.2.1 y.2.2.1),y.2.2.2)) (.c (zF n) (.c (Il n) (.c (Tk n) (.c (Xk n) .n)))) @Tryz.func16 (by kernel_rfl) (by intro z y h;first|(cases h;rfl)|(obtain⟨h1,h2⟩:=(aM h).resolve_right fun h=>(by cases h.2);cases h2;exact qCI (qBa.1 h1).symm rfl)|(obtain⟨h1,h2⟩:=(aM h).resolve_right fun h=>(by cases h.2);cases h2;obtain⟨z1,z2⟩:=z;cases z2;rfl;cases h1)|(simp only[cond]at h;split at h<;>cases h;simp_all)) fun _=>by kernel_rfl
theorem El:∀n,aF Tryz.prog TE (Em n)
 |0=>oQ (fn:=Tryz.f51) (by kernel_rfl) fun _=>rfl
 |n+1=>MKS n [(58,.lp [.r 4 .I,.o 2 (.bx [(2,.own 3)]),.w (.own .ty)] 0 [.o 2 (.bx [(2,.own 3)]),.w (.own .ty)])] (.c (El n) .n) @Tryz.func51
theorem sV:∀n,aF Tryz.prog TE (Br n)∧aF Tryz.prog TE (EU n)
 |0=>⟨oQ (fn:=Tryz.f17) (by kernel_rfl) fun _=>rfl,oQ (fn:=Tryz.f31) (by kernel_rfl) fun _=>rfl⟩
 |n+1=>⟨MKS n [(58,.lp [.w (.own .tm),.r 3 (.own 0),.r 4 .I] 0 [.w (.own .tm),.r 3 (.own 0)])] (.c (sV n).2 .n) @Tryz.func17,
  MKS n [] (.c (El n) (.c (sV n).1 .n)) @Tryz.func31⟩
theorem TG(n:Nat):aF Tryz.prog TE (Br n):=(sV n).1
theorem Tn(n:Nat):aF Tryz.prog TE (Ib n):=MKS n [(31,.fz [3])] (.c (KH n) (.c (Il n) (.c (TG n) .n))) @Tryz.func5
theorem oL:∀n,aF Tryz.prog TE (uN n)∧aF Tryz.prog TE (xC n)
 |0=>⟨oQ (fn:=Tryz.f6) (by kernel_rfl) fun _=>rfl,oQ (fn:=Tryz.f18) (by kernel_rfl) fun _=>rfl⟩
 |n+1=>⟨MKS n [(58,.lp [.r 5 .I] 0 [])] (.c (oL n).2 .n) @Tryz.func6,
  MKS n [(3,.jn [.r 4 .B] false)] (.c (xu n) (.c (oL n).1 .n)) @Tryz.func18⟩
theorem Nt(n:Nat):aF Tryz.prog TE (uN n):=(oL n).1
theorem Pg(n:Nat):aF Tryz.prog TE (Ep n):=MKS n [(58,.lp [.r 5 .I] 0 [])] .n @Tryz.func7
theorem tq(n:Nat):aF Tryz.prog TE (tV n):=MKS n [(7,.jn [.r 4 .B] false)] .n @Tryz.func37
theorem TS(n:Nat):aF Tryz.prog TE (Ie n):=MKS n [(12,.jn [.r 4 .B] false),(51,.jn [.r 15 .B] false),(831,.jn [.r 31 .B] false),(1647,.jn [.r 15 .B] false)] .n @Tryz.func65
theorem rV(n:Nat):aF Tryz.prog TE (kQ n):=MKS n [(3,.jn [.r 4 .B] false)] .n @Tryz.func233
theorem rz(n:Nat):aF Tryz.prog TE (kF n):=MKS n [] (.c (rV n) .n) @Tryz.func184
theorem Dp(n:Nat):aF Tryz.prog TE (sO n):=MKS n [] (.c (rz n) .n) @Tryz.func133
theorem Eo(n:Nat):aF Tryz.prog TE (Eb n):=MKS n [(3,.jn [.r 2 .B] false)] .n @Tryz.func134
theorem Nu(n:Nat):aF Tryz.prog TE (BO n):=MKS n [(26,.jn [.r 4 .B] false)] .n @Tryz.func135
theorem QO(n:Nat):aF Tryz.prog TE (Fz n):=MKS n [(3,.jn [.r 2 .B] false)] .n @Tryz.func185
theorem Ph(n:Nat):aF Tryz.prog TE (D8 n):=MKS n [(3,.jn [.r 2 .B] false)] (.c (Eo n) (.c (QO n) .n)) @Tryz.func136
theorem qQ(n:Nat):aF Tryz.prog TE (xK n):=MKS n [(6,.jn [.r 20 .B] false),(58,.lp [.r 23 .I] 0 [])] (.c (Eo n) (.c (Nu n) (.c (Ph n) .n))) @Tryz.func68
theorem Qb(n:Nat):aF Tryz.prog TE (Gl n):=MKS n [] (.c (Dp n) (.c (qQ n) .n)) @Tryz.func66
theorem Ei(n:Nat):aF Tryz.prog TE (Er n):=MKS n [(3,.jn [.r 2 .B] false)] .n @Tryz.func67
theorem bZ:∀n,aF Tryz.prog TE (lu n)∧aF Tryz.prog TE (jX n)∧aF Tryz.prog TE (kZ n)∧aF Tryz.prog TE (kr n)
 |0=>⟨oQ (fn:=Tryz.f234) (by kernel_rfl) fun _=>rfl,oQ (fn:=Tryz.f186) (by kernel_rfl) fun _=>rfl,oQ (fn:=Tryz.f137) (by kernel_rfl) fun _=>rfl,oQ (fn:=Tryz.f187) (by kernel_rfl) fun _=>rfl⟩
 |n+1=>⟨MKS n [(26,.lp [.r 8 .I,.o 1 (.bx [(0,.lf (.n .i64))])] 0 [.o 1 (.bx [(0,.lf (.n .i64))])])] (.c (bZ n).2.2.2 .n) @Tryz.func234,
  MKS n [] (.c (bZ n).1 .n) @Tryz.func186,
  MKS n [(15,.jn [.r 9 .I] true),(62,.jn [.r 45 .B] false)] (.c (tq n) (.c (qQ n) (.c (bZ n).2.1 .n))) @Tryz.func137,
  MKS n [] (.c (bZ n).2.2.1 .n) @Tryz.func187⟩
theorem Ad(n:Nat):aF Tryz.prog TE (kZ n):=(bZ n).2.2.1
theorem IV(n:Nat):aF Tryz.prog TE (zu n):=MKS n [] (.c (Ad n) .n) @Tryz.func69
theorem KD(n:Nat):aF Tryz.prog TE (A8 n):=MKS n [(3,.jn [.r 2 .B] false)] .n @Tryz.func70
theorem Pd(n:Nat):aF Tryz.prog TE (Ef n):=MKS n [(7,.jn [.r 4 .B] true),(15,.jn [.r 4 .B] false),(28,.jn [.r 14 .B] false),(63,.jn [.r 2 .B] false),(227,.jn [.r 14 .B] false),(250,.jn [.r 2 .B] false)] (.c (TS n) (.c (Qb n) (.c (Ei n) (.c (qQ n) (.c (IV n) (.c (KD n) .n)))))) @Tryz.func38
theorem bO:∀n,aF Tryz.prog TE (kC n)∧aF Tryz.prog TE (jA n)∧aF Tryz.prog TE (oK n)∧aF Tryz.prog TE (mZ n)
 |0=>⟨oQ (fn:=Tryz.f42) (by kernel_rfl) fun _=>rfl,oQ (fn:=Tryz.f39) (by kernel_rfl) fun _=>rfl,oQ (fn:=Tryz.f22) (by kernel_rfl) fun _=>rfl,oQ (fn:=Tryz.f40) (by kernel_rfl) fun _=>rfl⟩
 |n+1=>⟨MKS n [(26,.lp [.r 8 .I,.o 1 (.bx [(0,.lf (.n .i64))])] 0 [.o 1 (.bx [(0,.lf (.n .i64))])])] (.c (bO n).2.2.2 .n) @Tryz.func42,
  MKS n [] (.c (bO n).1 .n) @Tryz.func39,
  MKS n [(6,.jn [.r 15 .B,.o 0 (.bx [(0,.lf (.n .i64))])] false)] (.c (tq n) (.c (Pd n) (.c (bO n).2.1 .n))) @Tryz.func22,
  MKS n [] (.c (bO n).2.2.1 .n) @Tryz.func40⟩
theorem EA(n:Nat):aF Tryz.prog TE (oK n):=(bO n).2.2.1
theorem Gp(n:Nat):aF Tryz.prog TE (pV n):=MKS n [] (.c (EA n) .n) @Tryz.func9
theorem MK(n:Nat):aF Tryz.prog TE (BZ n):=MKS n [] (.c (Gp n) .n) @Tryz.func71
theorem yE(n:Nat):aF Tryz.prog TE (oP n):=MKS n [(26,.lp [.r 8 .I] 0 [])] (.c (MK n) .n) @Tryz.func42
theorem wZ(n:Nat):aF Tryz.prog TE (ow n):=MKS n [] (.c (yE n) .n) @Tryz.func39
theorem Sb(n:Nat):aF Tryz.prog TE (Gh n):=MKS n [] (.c (wZ n) .n) @Tryz.func44
theorem nO:∀n,aF Tryz.prog TE (tX n)∧aF Tryz.prog TE (lq n)
 |0=>⟨oQ (fn:=Tryz.f72) (by kernel_rfl) fun _=>rfl,oQ (fn:=Tryz.f138) (by kernel_rfl) fun _=>rfl⟩
 |n+1=>⟨MKS n [(3,.jn [.r 4 .B] false)] (.c (nO n).2 .n) @Tryz.func72,
  MKS n [(58,.lp [.r 17 .I] 0 [])] (.c (nO n).1 .n) @Tryz.func138⟩
theorem Lb(n:Nat):aF Tryz.prog TE (tX n):=(nO n).1
theorem wE:∀n,aF Tryz.prog TE (wh n)
 |0=>oQ (fn:=Tryz.f45) (by kernel_rfl) fun _=>rfl
 |n+1=>MKS n [(6,.jn [.r 39 .B] false),(117,.jn [.r 6 .B] false),(122,.lp [.r 70 .I] 0 []),(15667,.jn [.o 3 (.bx [(0,.lf (.l .s)),(1,.lf (.l .s))])] false),(31334,.jn [.r 80 .B] false)] (.c (Lb n) (.c (Iw n) (.c (Ei n) (.c (wE n) (.c (Ab n) .n))))) @Tryz.func45
theorem Qw(n:Nat):aF Tryz.prog TE (Gn n):=MKS n [(3,.jn [.r 4 .B] false)] (.c (Sb n) (.c (wE n) .n)) @Tryz.func24
theorem yu(n:Nat):aF Tryz.prog TE (oN n):=MKS n [] (.c (Qw n) .n) @Tryz.func43
theorem Ac(n:Nat):aF Tryz.prog TE (qO n):=MKS n [(26,.lp [.r 8 .I] 0 [])] (.c (yu n) .n) @Tryz.func42
theorem Aa(n:Nat):aF Tryz.prog TE (qN n):=mk n [(58,.lp [.r 33 .I,.o 6 (.bx [(0,.psl 7 7),(1,.psl 8 1)]),.w (.arr .tm),.w (.arr .i),.o 4 .dead,.o 5 .dead] 0 [.o 6 (.bx [(0,.psl 7 7),(1,.psl 8 1)]),.w (.arr .tm),.w (.arr .i),.o 4 .dead,.o 5 .dead]),(250,.lp [.r 83 .I,.o 9 (.bx [(0,.own 10),(1,.own 11)]),.w (.own .tm),.w (.own .i)] 2 [.o 9 (.bx [(0,.own 10),(1,.own 11)]),.w (.own .tm),.w (.own .i)]),(467,.jn [.o 6 (.bx [(0,.psl 9 7),(1,.psl 10 1)]),.w (.arr .tm),.w (.arr .i),.o 7 .dead,.o 8 .dead] false),(2003,.jn [.o 9 (.bx [(0,.own 12),(1,.own 13)]),.w (.own .tm),.w (.own .i),.o 10 .dead,.o 11 .dead] false)] (e:=qN (n)) (inn:=fun y=>some (S_api_Term_.mk y.1 y.2.1 y.2.2)) (.c (Ew n) (.c (wM n) (.c (Ac n) .n))) @Tryz.func23 (by kernel_rfl) (by intro z y h;first|(cases h;rfl)|(obtain⟨h1,h2⟩:=(aM h).resolve_right fun h=>(by cases h.2);cases h2;exact qCI (qBa.1 h1).symm rfl)|(obtain⟨h1,h2⟩:=(aM h).resolve_right fun h=>(by cases h.2);cases h2;obtain⟨z1,z2⟩:=z;cases z2;rfl;cases h1)|(simp only[cond]at h;split at h<;>cases h;simp_all)) fun _=>by kernel_rfl
theorem IK(n:Nat):aF Tryz.prog TE (y9 n):=mk n [(26,.lp [.r 13 .I,.o 2 .dead,.o 3 .dead] 0 [.o 2 .dead,.o 3 .dead]),(211,.jn [] true),(1689,.jn [.r 22 .B] false)] (e:=y9 (n)) (inn:=fun y=>some (S_api_Term_.mk y.1 y.2.1 y.2.2)) (.c (Ce n) (.c (Pj n) .n)) @Tryz.func25 (by kernel_rfl) (by intro z y h;first|(cases h;rfl)|(obtain⟨h1,h2⟩:=(aM h).resolve_right fun h=>(by cases h.2);cases h2;exact qCI (qBa.1 h1).symm rfl)|(obtain⟨h1,h2⟩:=(aM h).resolve_right fun h=>(by cases h.2);cases h2;obtain⟨z1,z2⟩:=z;cases z2;rfl;cases h1)|(simp only[cond]at h;split at h<;>cases h;simp_all)) fun _=>by kernel_rfl
theorem Ar:∀n,aF Tryz.prog TE (lQ n)
 |0=>oQ (fn:=Tryz.f12) (by kernel_rfl) fun _=>rfl
 |n+1=>mk n [(3,.jn [] true),(431,.jn [.r 24 .B] false),(13815,.jn [.r 5 .I] false),(27643,.jn [.o 2 (.bx [(0,.lf (.l .tm)),(1,.lf (.l .i)),(2,.lf (.n .i64))]),.o 3 (.bx [(0,.lf (.l .tm)),(1,.lf (.l .i)),(2,.lf (.n .i64))])] false)] (e:=lQ (n+1)) (inn:=fun y=>some (S_api_Term_.mk y.1 y.2.1 y.2.2)) (.c (Ar n) (.c (Aa n) (.c (IK n) .n))) @Tryz.func12 (by kernel_rfl) (by intro z y h;first|(cases h;rfl)|(obtain⟨h1,h2⟩:=(aM h).resolve_right fun h=>(by cases h.2);cases h2;exact qCI (qBa.1 h1).symm rfl)|(obtain⟨h1,h2⟩:=(aM h).resolve_right fun h=>(by cases h.2);cases h2;obtain⟨z1,z2⟩:=z;cases z2;rfl;cases h1)|(simp only[cond]at h;split at h<;>cases h;simp_all)) fun _=>by kernel_rfl
theorem xE:∀n,aF Tryz.prog TE (xJ n)
 |0=>oQ (fn:=Tryz.f26) (by kernel_rfl) fun _=>rfl
 |n+1=>MKS n [(58,.lp [.r 14 .I,.o 2 (.bx [(2,.own 3)]),.w (.own .ty),.o 0 .dead] 0 [.o 2 (.bx [(2,.own 3)]),.w (.own .ty),.o 0 .dead])] (.c (xE n) .n) @Tryz.func26
theorem xI:∀n,aF Tryz.prog TE (mH n)
 |0=>oQ (fn:=Tryz.f13) (by kernel_rfl) fun _=>rfl
 |n+1=>MKS n [(122,.lp [.r 15 .I,.o 2 (.bx [(6,.own 3)]),.w (.own .tm),.o 0 .dead] 0 [.o 2 (.bx [(6,.own 3)]),.w (.own .tm),.o 0 .dead])] (.c (xE n) (.c (xI n) .n)) @Tryz.func13
end
section
open Go Go.Proofs
theorem agq:gT Tryz.prog 4=true:=by kernel_rfl
theorem X4:gT Tryz.prog 10=true:=by kernel_rfl
theorem aex(v:Int)(w:World):(Instr.typeAssert (.iface TE (.int .i64 v)) 20 29 true).run Tryz.prog w=.ok (.tuple #[.int .i64 v,.bool true]) w:=by
 have h:Tryz.prog.underlying 29=some (.int .i64):=by kernel_rfl
 simp[Instr.typeAssert,run_underlying h,go_sem,Result.andThen,TE]
theorem V3(v:Int)(w:World):Calls Tryz.prog 11 #[.iface TE (.int .i64 v)] w fun e w'=>e=.returned (.int .i64 v)∧w'=w:=by
 have hta:=aex v
 go_enter Tryz.func11,Tryz.ntmps11
 go_wp2
 go_ret
 exact⟨rfl,rfl⟩
theorem aeS(xs:Array Value)(w:World)(hx:xs.size=4):CallsD Tryz.prog 10 xs .returning w fun e u' w'=>e=.returned (.tuple #[])∧u'=.returning∧w'=w:=by
 obtain⟨l⟩:=xs
 match l,hx with
 |[x0,x1,x2,x3],_=>
 refine callsD_of_wpS Tryz.func10 rfl fun c₀ cs hu=>?_;apply wpS_seq;apply wpS_region;simp[wpOpsS,go_sem,recoverD,hu,Tryz.ntmps10,Exit.thenS];refine(KI w).mono ?_;rintro e w' ⟨rfl,rfl⟩;refine wpS_of_wp ?_;refine wp_seq ?_;apply wp_region;simp[wpOps,go_sem,Exit.then]
 first
  |refine wp_cond_false (by simp[Act.eval,go_sem]) ?_
  |refine .inl (wp_cond_false (by simp[Act.eval,go_sem]) ?_)
  |refine .inl (.inl (wp_cond_false (by simp[Act.eval,go_sem]) ?_))
  |refine .inl (.inl (.inl (wp_cond_false (by simp[Act.eval,go_sem]) ?_)))
 refine wp_skip ?_;cases c₀
 simp_all [wpOps,go_sem,Exit.inBlock,bodyPostS,results,Tryz.results10]
noncomputable def opsOf:Code→List Oper| .region _ o _=>o.toList|_=>[]
noncomputable def b4:Code:=Vp Tryz.f4
noncomputable def r4:Code:=cR (cR (cR b4))
noncomputable def o4:List Oper:=opsOf (cL r4)
noncomputable def c10:Code:=cR (Vp Tryz.f10)
noncomputable def w9(t:List TV)(h:List TObj):DS:=⟨t,h,[],[],[],[],[],[]⟩
section
variable (n:Nat)(p0:Tm)(v:Int)
def t4:List TV:=[.lf (.t .tm) p0]++List.replicate 35 (.tup [])
def u4'(l:List TV):List TV:=[.lf (.t .tm) p0,.ptr 0 0,.ptr 1 0,.ptr 2 0,.ptr 3 0,.ptr 4 0]++l
def t4A:List TV:=u4' p0 (List.replicate 30 (.tup []))
def HV(b:Bool)(x:TV):List TV:=u4' p0 ([.tup [],.tup [],.tup [],.lf (.t .tm) p0,.lf .b b,.lf .b (!b),x]++List.replicate 23 (.tup []))
def Zf:List TV:=u4' p0 ([.tup [],.tup [],.tup [],.lf (.t .tm) p0,.lf .b true,.lf .b false,.unk,.lf (.t .tm) p0]++List.replicate 22 (.tup []))
def h4:List TObj:=[.box [.lf (.t .tm) p0],.box [.nils],.box [.nils],.box [.lf (.n .i64) 0],.box [.lf (.n .i64) v]]
def hn4:List (Nat×Hn):=[(127,.fz [6,7]),(250,.lp [.r 18 .I,.o 1 (.bx [(0,.psl 6 7)]),.w (.arr .tm)] 0 [.o 1 (.bx [(0,.psl 6 7)]),.w (.arr .tm)])]
theorem qA4:exe ⟨τ,θ,n,Unit,[],0,TE,fun _ _=>none⟩ [] (fun _=>none) (cL b4) (List TV×List TObj) 2 (w9 (t4 p0) []) (fun _=>none) (fun e s=>match e with| .normal=>some (s.t,s.h)|_=>none)=some (t4A p0,h4 p0 0):=by kernel_rfl
theorem qB4:exe ⟨τ,θ,n,Unit,[],0,TE,fun _ _=>none⟩ [pV n] (fun _=>none) (cL (cR b4)) (List TV×List TObj) 6 (w9 (t4A p0) (h4 p0 0)) (fun _=>none) (fun e s=>match e with| .normal=>some (s.t,s.h)|_=>none)=
  (nT n p0).bind fun b=>cond (!b) none (some (HV p0 b (.tup []),h4 p0 0)):=by kernel_rfl
theorem qE4:exe ⟨τ,θ,n,(List Tm)×(List Int)×Int×Int,[],0,TE,fun _ _=>none⟩ [pV n] (lW τ 0 Tryz.f4.results.toList (dL n).rs some) b4 ((List Tm)×(List Int)×Int×Int) 1 (w9 (t4 p0) []) some
  (fun e s=>match e with| .normal=>lW τ 0 Tryz.f4.results.toList (dL n).rs some s|_=>none)=
  (nT n p0).bind fun b=>cond (!b) (some ([],[],0,1)) none:=by kernel_rfl
theorem qI4:exe ⟨τ,θ,n,(List Tm)×(List Int)×Int×Int,hn4,0,TE,fun _ _=>none⟩ [lQ n,mH n,pR n] (lW τ 0 Tryz.f4.results.toList (dL n).rs some) r4 ((List Tm)×(List Int)×Int×Int) 15 (w9 (HV p0 true .unk) (h4 p0 0)) some
  (fun e s=>match e with| .normal=>lW τ 0 Tryz.f4.results.toList (dL n).rs some s|_=>none)=
  (fu n p0).bind (PZ.el (fun x2=>(kR n x2 n (0,([]:List Tm))).bind (LR.el (fun s2=>(slices_Clone_int n x2.coefs).bind fun x3=>some (s2,x3,x2.c,0)) (fun r=>some r))) fun _ _=>none):=by kernel_rfl
theorem qP4:tJ (w9 (HV p0 true .unk) (h4 p0 0)).h 0 (fun n'=>zO τ θ [lQ n] (fun _ _ _ _ v s=>some (v,s)) o4 o4 n' [] {w9 (HV p0 true .unk) (h4 p0 0)with h:=(w9 (HV p0 true .unk) (h4 p0 0)).h++l9 (mG o4)} fun _ _=>none)=
  (fu n p0).bind (PZ.el (fun _=>none) fun v _=>some (v,⟨Zf p0,h4 p0 0++l9 6,[13],[],[],[],[],[]⟩)):=by kernel_rfl
theorem qR4:lW τ 0 Tryz.f4.results.toList (dL n).rs some (w9 (Zf p0) (h4 p0 v))=some (([]:List Tm),([]:List Int),0,v):=by kernel_rfl
def s10:DS:=⟨[.ptr 1 0,.ptr 2 0,.ptr 3 0,.ptr 4 0,.lf (.n .i64) v,.unk,.unk,.tup [],.tup [],.tup []],h4 p0 0,[],[],[],[],[],[]⟩
theorem q10:exe ⟨τ,θ,0,Unit,[],5,TE,fun _ _=>none⟩ [] (fun _=>none) c10 (List TObj) 3 (s10 p0 v) (fun _=>none) (fun e s=>match e with| .normal=>some s.h|_=>none)=cond (v !=0) (some (h4 p0 v)) (some (h4 p0 0)):=by kernel_rfl
set_option maxHeartbeats 2000000 in
theorem afS(hv:1≤v∧v≤1000):NM Tryz.prog 10 [.ptr 1 0,.ptr 2 0,.ptr 3 0,.ptr 4 0] (au (h4 p0 0)) (tQ TE v) (au (h4 p0 v)):=by
 have hv0:(v !=0)=true:=by
  rw[bne_iff_ne];omega
 have h2:AW Tryz.prog 5 c10 (fun e t h=>e=.normal∧∃s:DS,s.h=h4 p0 v∧Le 5 t h (aI s.h s.t) (au s.h)) (aI (h4 p0 0) (s10 p0 v).t) (au (h4 p0 0)):=
  abw (n:=0) (h0:=h4 p0 0) (f:=fun(s:DS)=>s.h) jr (fun e he=>by cases he) (by kernel_rfl) (by kernel_rfl) (s:=s10 p0 v) (qg (qAq _)) ((q10 p0 v).trans (by rw[hv0];rfl))
 obtain⟨HP,hHP⟩:∃H,H=au (h4 p0 0):=⟨_,rfl⟩;obtain⟨HC,hHC⟩:∃H,H=au (h4 p0 v):=⟨_,rfl⟩;rw[←hHP,←hHC];intro κ ak w vs hen hvl hr;have hsim:=Ba (fn:=Tryz.f10) hen hvl hr
 match vs,hvl with
 |[x0,x1,x2,x3],_=>
 refine callsD_of_wpS Tryz.func10 rfl fun c₀ fr hu=>?_;apply wpS_seq;apply wpS_region;simp[wpOpsS,go_sem,recoverD,hu,Tryz.ntmps10,Exit.thenS];refine(V3 v w).mono ?_;rintro e w' ⟨rfl,rfl⟩;refine wpS_of_wp ?_;have h1:=(((hsim.ah (some 5) (v:=.unk) (u:=tQ TE v) (.unk _)).ah (some 6) (v:=.unk) (u:=.int .i64 v) (.unk _)).ah (some 4) (v:=.int .i64 v) (u:=.int .i64 v) (.int (by simp[jW,IntKind.min,IntKind.max,IntKind.signed,IntKind.bits];omega)));rw[hHP]at h1;have h2:=h2 _ _ _ _ (qBn (by rw[←hHP];exact hen.klen.trans (by rw[hHP];rfl))) h1;rw[←hHP]at h2;have hact:(((({tmps:=#[x0,x1,x2,x3]++Array.replicate (Tryz.f10.ntmps - #[x0,x1,x2,x3].size) undef,defers:=[]}:Act).put (some 5) (tQ TE v)).put (some 6) (.int .i64 v)).put (some 4) (.int .i64 v))=
   {tmps:=#[x0,x1,x2,x3]++((((Array.replicate 6 undef).setIfInBounds 1 (Value.iface TE (Value.int IntKind.i64 v))).setIfInBounds 2 (Value.int IntKind.i64 v)).setIfInBounds 0 (Value.int IntKind.i64 v)),defers:=[]}:=by
  simp[Act.put,Tryz.ntmps10,tQ]
 rw[hact]at h2;refine wp_mono (c:=c10) h2 ?_;rintro e a' w' ⟨s',κ',⟨rfl,s1,hs1,hle⟩,hs'⟩;have hl9:HP.length=5:=by rw[hHP];rfl
 have hq:oH Tryz.prog Tryz.f10.results.toList HP.length [] (h4 p0 v) s'.tmps s'.heap:=by
  rw[hl9];exact⟨_,_,[],hle,rfl,by rw[hs1];exact Le.refl _ _ _⟩
 obtain⟨v1,hv1,v2,κ2,e1,hleave,_⟩:=Dl (fn:=Tryz.f10) hen (by rw[hl9];exact qAq 5) [] hq hs';rw[←hHC]at hleave;have hd:a'.defers=[]:=hs'.defers;exact⟨hd,.panicking [{v:=Value.iface TE (Value.int IntKind.i64 v),recovered:=true}],rfl,.tuple #[],by simp[results,Tryz.results10,go_sem],rfl,by simp[settle],κ2,hleave⟩
end
theorem Kw(n:Nat):aF Tryz.prog TE (dL n):=by
 refine⟨agq,by kernel_rfl,fun(p0:Tm) y hF t h hb=>?_⟩;obtain⟨rfl,rfl⟩:t=[.lf (.t .tm) p0]∧h=[]:=⟨(congrArg Prod.fst hb).symm,(congrArg Prod.snd hb).symm⟩;clear hb;show ∀r h',bE aT (dL n).rs (bR _ ((dL n).out y)) (bA 4) []=(r,h')→aP Tryz.prog 4 (aI [] [.lf (.t .tm) p0]) (au []) (av h' (res1 r)) (au h');intro r h' hb2;have hte:ku Tryz.prog TE=true:=by kernel_rfl
 have hmix:Tryz.prog.follows .mixedOrders=true:=by kernel_rfl
 have hF:nW n p0=some y:=hF;have ret:=fun(s:DS) (hst:St 0 [] s) (hs:lW τ 0 Tryz.f4.results.toList (dL n).rs some s=some y)=>
  GI (h:=[]) (P:=Tryz.prog) (e:=dL n) (rvs:=Tryz.f4.results.toList) (out:=(dL n).out) (inn:=some) sm (by kernel_rfl) (h0:=[]) rfl rfl rfl hst (by rw[←jr];exact hs) hb2
 have hst0:∀t h,St 0 [] (w9 t h):=fun t h=>⟨(qg (m:=0) (h:=h) (t:=t) (qAN _)).inv,qAN _,fun l hl=>absurd hl (Nat.not_lt_zero l)⟩;have hE:∀e∈[pV n],aF Tryz.prog TE e:=by
  simp only[qAh,qCx,or_false,forall_eq];exact Gp n
 have hF:((nT n p0).bind fun b=>cond (!b) (some (([]:List Tm),([]:List Int),(0:Int),(1:Int))) ((fu n p0).bind (PZ.el (fun x2=>(kR n x2 n (0,([]:List Tm))).bind (LR.el (fun s2=>(slices_Clone_int n x2.coefs).bind fun x3=>some (s2,x3,x2.c,0)) (fun r=>some r))) fun e1 _=>bif decide ((1:Int)≤e1)&&decide (e1≤1000)then some (([]:List Tm),([]:List Int),0,e1)else none)))=some y:=hF;obtain⟨b1,e1,hF⟩:=ob hF;cases b1 with
 |false=>exact Jd Tryz.func4 rfl (qAf rfl) (qAN _) (UM (s:=w9 (t4 p0) []) jr hE hte hmix (hst0 _ _) ((qE4 n p0).trans (by rw[e1];exact hF)) ret)
 |true=>
  have hF:((fu n p0).bind (PZ.el (fun x2=>(kR n x2 n (0,([]:List Tm))).bind (LR.el (fun s2=>(slices_Clone_int n x2.coefs).bind fun x3=>some (s2,x3,x2.c,0)) (fun r=>some r))) fun e1 _=>bif decide ((1:Int)≤e1)&&decide (e1≤1000)then some (([]:List Tm),([]:List Int),0,e1)else none))=some y:=hF;have hE3:∀e∈[lQ n,mH n,pR n],aF Tryz.prog TE e:=by
   simp only[qAh,qCx,or_false,forall_eq_or_imp,forall_eq];exact⟨Ar n,xI n,wM n⟩
  have hr0:AW Tryz.prog 0 (cL b4) (Qm 0 (aI (h4 p0 0) (t4A p0)) (au (h4 p0 0))) (aI [] (t4 p0)) (au []):=
   Ck jr (fun e he=>by cases he) hte hmix (qg (h:=[]) (qAq 0)) (qA4 n p0)
  have hr1:AW Tryz.prog 0 (cL (cR b4)) (Qm 0 (aI (h4 p0 0) (HV p0 true (.tup []))) (au (h4 p0 0))) (aI (h4 p0 0) (t4A p0)) (au (h4 p0 0)):=
   Ck jr hE hte hmix (qg (h:=h4 p0 0) (qAN _)) ((qB4 n p0).trans (by rw[e1];rfl))
  cases he:fu n p0 with
  |none=>rw[he]at hF;cases hF
  |some o=>
   rw[he]at hF;cases o with
   |ok x=>
    refine O9 (f:=4) (d:=10) (n:=12) (b:=b4) (r3:=r4) (TB:=aI (h4 p0 0) (HV p0 true (.tup []))) (HB:=au (h4 p0 0)) Tryz.func4 rfl (qAf rfl) rfl rfl rfl rfl rfl rfl (qAf rfl) X4 (fun xs w hx=>aeS xs w (by simpa using hx)) (.cons hr0 (.cons hr1 .nil)) (qAN _) ?_;exact UM (s:=w9 (HV p0 true .unk) (h4 p0 0)) jr hE3 hte hmix (hst0 _ _) ((qI4 n p0).trans (by rw[he];exact hF)) ret
   |er v z=>
    have hF:(bif decide ((1:Int)≤v)&&decide (v≤1000)then some (([]:List Tm),([]:List Int),(0:Int),v)else none)=some y:=hF;obtain⟨hv,hF⟩:=(aM hF).resolve_right fun h=>by cases h.2
    simp only[qAa,decide_eq_true_eq]at hv;have hy:y=(([]:List Tm),([]:List Int),(0:Int),v):=(Option.some.inj hF).symm;refine OZ (f:=4) (d:=10) (n:=12) (b:=b4) (r3:=r4) (TB:=aI (h4 p0 0) (HV p0 true (.tup []))) (HB:=au (h4 p0 0)) (TP:=aI (h4 p0 0) (Zf p0)) (HP:=au (h4 p0 0)) Tryz.func4 rfl (qAf rfl) rfl rfl rfl rfl rfl rfl (qAf rfl) X4 (.cons hr0 (.cons hr1 .nil)) (qAN _) ?_ (by exact afS p0 v hv) ?_
    ·refine AW.seq (x:=.region 4 o4.toArray false) (y:=cR r4) ((VG (id:=4) jr (fun e h=>hE3 e (by simp only[qAL]at h;simp[h])) (hst0 (HV p0 true .unk) (h4 p0 0)).inv ((qP4 n p0).trans (by rw[he];rfl))).mono fun e t h hq=>?_);obtain⟨rfl,rfl,rfl⟩:=hq;exact⟨rfl,by
      have:=U4 (m:=(au (h4 p0 0)).length) (aI (h4 p0 0) (Zf p0)) (au (h4 p0 0)) 6;simp only[Gw,zU];exact this⟩
    ·exact ret (w9 (Zf p0) (h4 p0 v)) (hst0 _ _) (hy▸qR4 n p0 v)
end
section
open Go Go.Proofs
set_option maxRecDepth 100000
theorem Ht(n:Nat):aF Tryz.prog TE (xH n):=MKS n [(15,.jn [.r 2 .B] false)] (.c (Kw n) (.c (Tn n) (.c (Nt n) (.c (Pg n) (.c (Xa n) .n))))) @Tryz.func3
end
section
open Go
def z8(c:Int):Bool:=(decide (97≤c)&&decide (c≤122)) ||(decide (65≤c)&&decide (c≤90))
def Gi(c:Int):Bool:=decide (48≤c)&&decide (c≤57)
def oO(c:Int):Bool:=z8 c ||(Gi c ||c==95)
theorem BI(n:Nat)(c:Int):q9 n c=some (z8 c):=by
 unfold q9 z8;cases decide (97≤c)<;>cases decide (c≤122)<;>cases decide (65≤c)<;>rfl
theorem Fg(n:Nat)(c:Int):wK n c=some (z8 c):=by
 unfold wK z8;cases decide (97≤c)<;>cases decide (c≤122)<;>cases decide (65≤c)<;>rfl
theorem Pb(n:Nat)(c:Int):yG n c=some (Gi c):=by
 unfold yG Gi;cases decide (48≤c)<;>rfl
theorem TY(n:Nat)(c:Int):DZ n c=some (Gi c):=by
 unfold DZ Gi;cases decide (48≤c)<;>rfl
theorem Ns(n:Nat)(c:Int):vN n c=some (oO c):=by
 unfold vN oO;rw[BI,Pb];cases z8 c<;>cases Gi c<;>rfl
theorem aar(p0:Str)(l:List Str):Ev (fun n=>PS n p0 l) (l.any fun x=>x==p0):=by
 unfold PS;have h:=uK l (fun n k i=>Q8 n p0 l k i) (fun _ x=>some (x==p0)) (fun x=>x==p0) true (fun n k i=>rfl) (fun x _=>Ev.ret _);refine Ev.bind h ?_;cases l.any fun x=>x==p0
 ·exact Ev.ret _
 ·exact Ev.ret _
def kws:List Str:=[[116,114,117,101],[102,97,108,115,101],[110,111,116],[111,114],[102,111,114,97,108,108],[101,120,105,115,116,115],[105,110],[110,111,116,105,110],[115,117,98],[109,111,100],[102,117,110],[99,97,114,100],[109,105,110],[109,97,120],[100,111,109],[114,97,110],[80,79,87],[105,110,116],[98,111,111,108],[115,101,116],[112,97,105,114]]
def Rh(s:Str):Bool:=kws.any fun x=>x==s
theorem Pm(s:Str):Ev (fun n=>yC n s) (Rh s):=by
 unfold yC;exact Ev.bind (aar s _) (Ev.ret _)
theorem chainB(a b:Bool):cond a (some a) (some b)=some (a ||b):=by cases a<;>rfl
theorem KU(n:Nat)(s:Str):uo n s=some (Rh s):=by
 unfold uo;simp only[chainB,qAb];have h:∀b:Bool,cond b (some true) (some false)=some b:=fun b=>by cases b<;>rfl
 rw[h];simp only[Rh,kws,qBR,List.any_nil,qDr];simp only[BEq.comm (a:=s)]
def ident(s:Str):Bool:=match s with
 |[]=>false
 |c::cs=>decide (cs.length<16)&&(z8 (c.toNat:Int)&&(!(Rh (c::cs))&&cs.all fun c=>oO (c.toNat:Int)))
theorem Vn{α:Type}(p:α→Bool)(l:List α):l.any (fun x=>!(p x))=!(l.all p):=by
 induction l with
 |nil=>rfl
 |cons x l ih=>simp[ih]
theorem pW(s:Str):Ev (fun n=>iU n s) (ident s):=by
 unfold iU;cases s with
 |nil=>exact Ev.of fun n=>rfl
 |cons c cs=>
  have hloop:Ev (fun n=>pU n (c::cs) n 0) (cond ((c::cs).any fun c=>!(oO (c.toNat:Int))) (.rt false) (.nx ())):=by
   refine uK (c::cs) (fun n k i=>pU n (c::cs) k i) (fun _ x=>some (!(oO (x.toNat:Int)))) (fun x=>!(oO (x.toNat:Int))) false (fun n k i=>?_) (fun x _=>Ev.ret _);show cond _ _ _=_;congr 1;rw[zC];cases idx (c::cs) i with
   |none=>rfl
   |some x=>
    simp only[qAv,qAb,Ns];rfl
  have hs0:qP (c::cs) 0=some (c.toNat:Int):=by rw[zC];rfl
  have hne:((c::cs)==([]:Str))=false:=by simp
  simp only[hne,cond_false,hs0,qAb,BI,KU];by_cases hl:cs.length<16
  ·have h1:decide (16<((c::cs).length:Int))=false:=decide_eq_false (by simp;omega);simp only[h1,cond_false,ident,decide_eq_true hl,qAO];cases hlet:z8 (c.toNat:Int)with
   |false=>exact Ev.ret _
   |true=>
    cases hk:Rh (c::cs)with
    |true=>exact Ev.ret _
    |false=>
     simp only[qAT,cond_false,qAb,qAO,qBK];refine Ev.bind hloop ?_;rw[Vn];simp only[qBQ,oO,hlet,qCf,qAO];cases cs.all fun c=>z8 (c.toNat:Int) ||(Gi (c.toNat:Int) ||(c.toNat:Int)==95)
     ·exact Ev.ret _
     ·exact Ev.ret _
  ·have h1:decide (16<((c::cs).length:Int))=true:=decide_eq_true (by simp;omega);simp only[h1,cond_true,qAb,ident,decide_eq_false hl,qBL];exact Ev.ret _
theorem nN(s:Str):Ev (fun n=>jh n s) (ident s):=by
 unfold jh;cases s with
 |nil=>exact Ev.of fun n=>rfl
 |cons c cs=>
  have hloop:Ev (fun n=>rP n (c::cs) n 1) (cond (cs.any fun c=>!(oO (c.toNat:Int))) (.rt false) (.nx ())):=by
   refine J8 (c::cs) (fun n k i=>rP n (c::cs) k i) (fun _ x=>some (!(oO (x.toNat:Int)))) (fun x=>!(oO (x.toNat:Int))) false (fun n k i=>?_) (fun x _=>Ev.ret _) [c] cs rfl;show cond _ _ _=_;congr 1;rw[zC];cases idx (c::cs) i with
   |none=>rfl
   |some x=>
    simp only[qAv,qAb,Fg,TY,oO];cases z8 (x.toNat:Int)<;>cases Gi (x.toNat:Int)<;>rfl
  have hs0:qP (c::cs) 0=some (c.toNat:Int):=by rw[zC];rfl
  have hne:decide (((c::cs).length:Int)<1)=false:=decide_eq_false (by simp;omega);simp only[hne,cond_false,hs0,qAb,Fg];by_cases hl:cs.length<16
  ·have h1:decide (16<((c::cs).length:Int))=false:=decide_eq_false (by simp;omega);simp only[h1,cond_false,ident,decide_eq_true hl,qAO];cases hlet:z8 (c.toNat:Int)with
   |false=>exact Ev.ret _
   |true=>
    simp only[qAT,cond_false,qAO];refine Ev.bind (a:=Rh (c::cs)) (Ev.bind (Pm _) (Ev.ret _)) ?_;cases hk:Rh (c::cs)with
    |true=>exact Ev.ret _
    |false=>
     simp only[cond_false,qAO,qBK];refine Ev.bind hloop ?_;rw[Vn];cases cs.all fun c=>oO (c.toNat:Int)
     ·exact Ev.ret _
     ·exact Ev.ret _
  ·have h1:decide (16<((c::cs).length:Int))=true:=decide_eq_true (by simp;omega);simp only[h1,cond_true,qAb,ident,decide_eq_false hl,qBL];exact Ev.ret _
def Cq(s:Str):Str:=if s.getLast? =some 39 then s.dropLast else s
theorem QG{α:Type}(s:List α)(k:Nat)(h:k≤s.length):nQ s 0 (k:Int)=some (s.take k):=by
 unfold nQ;rw[if_pos (by omega)];simp
theorem Po(n:Nat)(s:Str)(hs:s.length≤9223372036854775807):strings_TrimSuffix n s [39]=some (Cq s):=by
 unfold strings_TrimSuffix iN iY;rcases qDd s with rfl|⟨t,c,rfl⟩
 ·rfl
 ·have hl:((t++[c]).length:Int) - (([39]:Str).length:Int)=(t.length:Int):=by simp
  have hd:decide ((([39]:Str).length:Int)≤((t++[c]).length:Int))=true:=decide_eq_true (by simp;omega);simp only[qDe]at hs⊢;rw[hl,hd,wrap64 (by omega) (by simp at hs;omega)];have h1:nQ (t++[c]) (t.length:Int) ((t++[c]).length:Int)=some [c]:=by
   unfold nQ;rw[if_pos (by simp;omega)];simp
  have h2:nQ (t++[c]) 0 (t.length:Int)=some t:=by rw[QG _ _ (by simp)];simp
  simp only[cond_true,h1,h2,qAb];unfold Cq;rw[qDn,qDo];by_cases hc:c=39
  ·subst hc;simp
  ·have:(([c]:Str)==[39])=false:=by simp[hc]
   rw[this,if_neg (by simpa using hc)];rfl
def named(s:Str):Bool:=ident (Cq s)
theorem Tx(s:Str)(hs:s.length≤9223372036854775807):Ev (fun n=>tN n s) (named s):=by
 unfold tN;simp only[Po _ s hs,qAb];exact Ev.bind (pW _) (Ev.ret _)
theorem Vr{s:Str}(h:ident s=true):∀c∈s,oO (c.toNat:Int)=true:=by
 cases s with
 |nil=>cases h
 |cons c cs=>
  simp only[ident,qAa,decide_eq_true_eq,qAG]at h;intro x hx;rcases qAh.1 hx with rfl|hx
  ·simp[oO,h.2.1]
  ·exact h.2.2.2 x hx
theorem Uf(s:Str):Ev (fun n=>C8 n s) (named s):=by
 unfold C8;have hp:Ev (fun n=>Af n s) (decide (s.getLast? =some 39)&&ident s.dropLast):=by
  unfold Af;rcases qDd s with rfl|⟨t,c,rfl⟩
  ·exact Ev.ret _
  ·simp only[qDe,qDn,qDo];cases t with
   |nil=>
    have h1:decide (1<(([]++[c]:Str).length:Int))=false:=rfl;simp only[h1,cond_false,qAb];have:ident ([]:Str)=false:=rfl;rw[this,qBU];exact Ev.ret _
   |cons d t=>
    have h1:decide (1<((d::t++[c]:Str).length:Int))=true:=decide_eq_true (by simp;omega);have hlen:(((d::t++[c]:Str).length:Int) - 1)=((d::t).length:Int):=by simp
    have h2:qP (d::t++[c]) (((d::t++[c]:Str).length:Int) - 1)=some (c.toNat:Int):=by
     rw[hlen,zC,show(d::t++[c]:Str)=(d::t)++c::[]from rfl,mJ];rfl
    have h3:nQ (d::t++[c]) 0 (((d::t++[c]:Str).length:Int) - 1)=some (d::t):=by rw[hlen,QG _ _ (by simp)];simp
    simp only[h1,cond_true,h2,h3,qAb];by_cases hc:c=39
    ·subst hc;simp only[show((((39:UInt8).toNat:Nat):Int)==39)=true from rfl,cond_true,decide_true,qAO];exact Ev.bind (Ev.bind (nN _) (Ev.ret _)) (Ev.ret _)
    ·have e:(((c.toNat:Nat):Int)==39)=false:=by
      apply beq_false_of_ne;intro h;apply hc;have:c.toNat=39:=by omega
      exact UInt8.toNat_inj.1 this
     rw[e];have e2:decide (some c=some (39:UInt8))=false:=decide_eq_false (by simpa using hc);simp only[cond_false,qAb,e2,qBL];exact Ev.ret _
 refine Ev.bind (a:=named s) ?_ (Ev.ret _);refine Ev.bind (nN s) ?_;unfold named Cq;by_cases hq:s.getLast? =some 39
 ·have hi:ident s=false:=by
   cases h:ident s with
   |false=>rfl
   |true=>
    have:=Vr h 39 (List.mem_of_getLast? hq);cases this
  rw[hi,if_pos hq];rw[decide_eq_true hq,qAO]at hp;exact Ev.bind hp (Ev.ret _)
 ·rw[if_neg hq];rw[decide_eq_false hq,qBL]at hp;cases ident s
  ·exact Ev.bind hp (Ev.ret _)
  ·exact Ev.ret _
end
section
open Go
theorem Ty.ind{P:Ty→Prop}(h:∀k n ks,(∀t∈ks,P t)→P (.mk k n ks))(t:Ty):P t:=by
 match t with
 | .mk k n ks=>exact h k n ks fun u _=>Ty.ind h u
decreasing_by
 rename_i hu;have:=qDf hu
 grind
def fQ(k:Int)(nm:Str)(len:Nat)(d:Int):Bool:=
 !(k==2&&decide (1<d))&&((((k==1 ||(k==2 ||k==3))&&len==0) ||((k==4&&len==2) ||(k==5&&len==1)))&&cond (k==3) (ident nm) (nm==[]))
mutual
def pf:Ty→Int→Int→Bool×Int
 | .mk k nm ks,d,c=>cond ((decide (c+1≤16)&&decide (d≤6))&&fQ k nm ks.length d) (jE ks (d+1) (c+1)) (false,c+1)
def jE:List Ty→Int→Int→Bool×Int
 |[],_,c=>(true,c)
 |t::ts,d,c=>cond (pf t d c).1 (jE ts d (pf t d c).2) (false,(pf t d c).2)
end
mutual
theorem GV:∀(t:Ty) (d c:Int),(pf t d c).1=true→c<(pf t d c).2∧(pf t d c).2≤16
 | .mk k nm ks,d,c,h=>by
  simp only[pf]at h⊢;cases hb:((decide (c+1≤16)&&decide (d≤6))&&fQ k nm ks.length d)with
  |false=>rw[hb]at h;cases h
  |true=>
   rw[hb]at h;simp only[cond_true]at h⊢;simp only[qAa,decide_eq_true_eq]at hb;have:=QV ks (d+1) (c+1) h;omega
theorem QV:∀(ts:List Ty) (d c:Int),(jE ts d c).1=true→c≤(jE ts d c).2∧(c≤16→(jE ts d c).2≤16)
 |[],_,c,_=>by simp[jE]
 |t::ts,d,c,h=>by
  simp only[jE]at h⊢;cases hb:(pf t d c).1 with
  |false=>rw[hb]at h;cases h
  |true=>
   rw[hb]at h;simp only[cond_true]at h⊢;have h1:=GV t d c hb;have h2:=QV ts d _ h;exact⟨by omega,fun _=>h2.2 h1.2⟩
end
theorem aag(n:Nat)(c d:Int)(h0:0≤c)(h1:c≤16):gK n c 16 6 d=some (decide (c+1≤16)&&decide (d≤6),c+1):=by
 unfold gK;rw[wrap64 (by omega) (by omega)]
 grind
def aeg(t:Ty):Prop:=∀d c:Int,1≤d→d≤7→0≤c→c≤16→Ev (fun n=>dD n c 16 6 t d (decide (1<d))) (pf t d c)
theorem UU(d:Int):∀(ts:List Ty) (i c:Int),0≤i→(∃j,0≤j∧(jE ts d c).1=false∧jy (τ:=Int) (fun i x s=>cond (!(pf x d s).1) (.rt (i,(pf x d s).2)) (.nx (pf x d s).2)) (fun s=>s) i ts c=.rt (j,(jE ts d c).2))∨((jE ts d c).1=true∧jy (ρ:=Int×Int) (fun i x s=>cond (!(pf x d s).1) (.rt (i,(pf x d s).2)) (.nx (pf x d s).2)) (fun s=>s) i ts c=.nx (jE ts d c).2)
 |[],i,c,_=>.inr ⟨rfl,rfl⟩
 |t::ts,i,c,hi=>by
  simp only[jE,jy];cases hb:(pf t d c).1 with
  |false=>exact .inl ⟨i,hi,rfl,rfl⟩
  |true=>exact UU d ts (i+1) _ (by omega)
theorem Zc(ts:List Ty)(h:∀t∈ts,aeg t)(d c:Int)(hd:1≤d)(hd6:d≤6)(h0:0≤c)(h1:c≤16):Ev (fun n=>bL n ts c 16 6 d) (!(jE ts (d+1) c).1,(jE ts (d+1) c).2):=by
 refine Ev.succ ?_;show Ev (fun n=>jo n _ _ _ _ ts c 16 6 d) _;unfold jo;have hloop:=Nn ts (fun n k i s=>pY n (fZ n) (bL n) (dD n) (bS n) ts 16 6 d k (i,s))
  (fun n i x s=>(bS n x s 16 6 d).bind fun x2=>cond x2.1 (some (.rt (i,x2.2))) (some (.nx x2.2))) (fun i x s=>cond (!(pf x (d+1) s).1) (.rt (i,(pf x (d+1) s).2)) (.nx (pf x (d+1) s).2)) (fun s=>s) (fun _ _ s=>0≤s∧s≤16)
  (fun n k i s=>by
   show cond _ _ _=_;congr 1;congr 1;funext x;dsimp only;cases bS n x s 16 6 d with
   |none=>rfl
   |some b=>obtain⟨b,e⟩:=b;cases b<;>rfl)
  (fun i x suf s hx hs=>⟨by
   have hfit:Ev (fun n=>bS n x s 16 6 d) (!(pf x (d+1) s).1,(pf x (d+1) s).2):=by
    refine Ev.succ ?_;show Ev (fun n=>jC n _ _ _ _ x s 16 6 d) _;unfold jC;have:=h x hx (d+1) s (by omega) (by omega) hs.1 hs.2;rw[decide_eq_true (show 1<d+1 by omega)]at this;rw[wrap64 (by omega) (by omega)];exact Ev.bind this (Ev.ret _)
   refine Ev.bind hfit ?_;cases(pf x (d+1) s).1
   ·exact Ev.ret _
   ·exact Ev.ret _,fun s' he=>by
    cases hb:(pf x (d+1) s).1 with
    |false=>rw[hb]at he;cases he
    |true=>
     rw[hb]at he;simp only[qAT,cond_false,LR.nx.injEq]at he;have:=GV x (d+1) s hb;omega⟩) (s0:=c) ⟨h0,h1⟩
 rcases UU (d+1) ts 0 c (qCu _)with⟨j,hj,hf,hr⟩|⟨ht,hr⟩
 ·rw[hr]at hloop;refine Ev.bind (a:=(j,(jE ts (d+1) c).2)) (Ev.succ ?_) ?_
  ·show Ev (fun n=>fB n _ _ _ _ ts c 16 6 d) _;unfold fB;exact Ev.bind hloop (Ev.ret _)
  ·rw[hf];simp only[decide_eq_true hj];exact Ev.ret _
 ·rw[hr]at hloop;refine Ev.bind (a:=(-1,(jE ts (d+1) c).2)) (Ev.succ ?_) ?_
  ·show Ev (fun n=>fB n _ _ _ _ ts c 16 6 d) _;unfold fB;exact Ev.bind hloop (Ev.ret _)
  ·rw[ht];exact Ev.ret _
theorem SA(len:Nat)(m:Nat):(((len:Int)!=(m:Int)))=!(len==m):=by grind
theorem fits:∀t:Ty,aeg t:=Ty.ind fun k nm ks ih d c hd hd7 h0 h1=>by
 refine Ev.succ ?_;show Ev (fun n=>jZ n _ _ _ _ c 16 6 (.mk k nm ks) d (decide (1<d))) _;unfold jZ;simp only[aag _ c d h0 h1,qAb,pf,Ty.kind,Ty.name,Ty.kids];cases hb:(decide (c+1≤16)&&decide (d≤6))with
 |false=>exact Ev.ret _
 |true=>
  simp only[qAa,decide_eq_true_eq]at hb;have hk:=Zc ks ih d (c+1) hd hb.2 (by omega) hb.1;simp only[qAT,cond_false,qAO]
  -- the end: the number of kids, the name, the kids
  have hend:∀m:Nat,Ev (fun n=>(((cond ((ks.length:Int)!=(m:Int)) (some true) (cond (k !=3) (some (!(nm==([]:Str)))) (some false))):Option Bool).bind fun(s2:Bool)=>(cond s2 (some (false,c+1)) ((bL n ks (c+1) 16 6 d).bind fun(x2:Bool×Int)=>some ((!x2.1),x2.2)))))
    (cond ((ks.length==m)&&cond (k==3) true (nm==[])) (jE ks (d+1) (c+1)) (false,c+1)):=fun m=>by
   rw[SA];cases ks.length==m with
   |false=>exact Ev.ret _
   |true=>
    simp only[qAT,cond_false,qAO,bne];have hkids:Ev (fun n=>(bL n ks (c+1) 16 6 d).bind fun(x2:Bool×Int)=>some ((!x2.1),x2.2)) (jE ks (d+1) (c+1)):=by
     refine Ev.bind hk ?_;simp only[qDw];exact Ev.ret _
    cases k==3 with
    |true=>exact hkids
    |false=>
     simp only[qBK,cond_true,qAb,cond_false];cases nm==([]:Str)with
     |false=>exact Ev.ret _
     |true=>exact hkids
  by_cases e1:k=1
  ·subst e1;have:=hend 0;simpa[fQ]using this
  by_cases e2:k=2
  ·subst e2;cases hf:decide (1<d)with
   |true=>
    have:fQ 2 nm ks.length d=false:=by simp[fQ,hf]
    simp only[this,cond_false];exact Ev.of fun n=>by simp
   |false=>
    have:=hend 0;simpa[fQ,hf]using this
  by_cases e3:k=3
  ·subst e3;simp only[show((3:Int)==1)=false from rfl,show((3:Int)==2)=false from rfl,show((3:Int)==3)=true from rfl,cond_false,cond_true];refine Ev.bind (a:=cond (ident nm) (.nx 0) (.rt (false,c+1))) (Ev.bind (pW nm) ?_) ?_
   ·cases ident nm
    ·exact Ev.ret _
    ·exact Ev.ret _
   ·cases hi:ident nm with
    |false=>
     have:fQ 3 nm ks.length d=false:=by simp[fQ,hi]
     rw[this];exact Ev.ret _
    |true=>
     have:=hend 0;simpa[fQ,hi]using this
  by_cases e4:k=4
  ·subst e4;have:=hend 2;simpa[fQ]using this
  by_cases e5:k=5
  ·subst e5;have:=hend 1;simpa[fQ]using this
  ·have:fQ k nm ks.length d=false:=by simp[fQ,e1,e2,e3,e4,e5]
   rw[this];refine Ev.of fun n=>?_;have b1:=beq_false_of_ne e1;have b2:=beq_false_of_ne e2;have b3:=beq_false_of_ne e3;have b4:=beq_false_of_ne e4;have b5:=beq_false_of_ne e5;simp only[b1,b2,b3,b4,b5,cond_false,qAb,LR.el]
def jw(t:Ty):Bool:=(pf t 1 0).1
theorem Hu(t:Ty):Ev (fun n=>u6 n t) (jw t):=by
 have:=fits t 1 0 (by omega) (by omega) (by omega) (by omega);exact Ev.bind this (Ev.ret _)
def pt(t:Ty)(d c:Int):Int:=cond (pf t d c).1 (pf t d c).2 (-1)
def ad5(t:Ty):Prop:=∀d c:Int,1≤d→d≤7→0≤c→c≤16→Ev (fun n=>nJ n t d c) (pt t d c)
theorem Uj(d:Int):∀(ts:List Ty) (c:Int),0≤c→bW (τ:=Int) (fun x s=>cond (decide (pt x d s<0)) (.rt (-1)) (.nx (pt x d s))) (fun s=>s) ts c=cond (jE ts d c).1 (.nx (jE ts d c).2) (.rt (-1))
 |[],c,_=>rfl
 |t::ts,c,h0=>by
  simp only[jE,bW];by_cases hb:(pf t d c).1=true
  ·have h1:=GV t d c hb;have h2:pt t d c=(pf t d c).2:=by simp only[pt,hb,cond_true]
   have h3:decide ((pf t d c).2<0)=false:=decide_eq_false (by omega);simp only[h2,h3,hb,cond_true,cond_false];exact Uj d ts (pf t d c).2 (by omega)
  ·have hb':(pf t d c).1=false:=by simpa using hb
   have h2:pt t d c= -1:=by simp only[pt,hb',cond_false]
   have h3:decide (pt t d c<0)=true:=decide_eq_true (by omega);simp only[h3,hb',cond_true,cond_false]
theorem typed:∀t:Ty,ad5 t:=Ty.ind fun k nm ks ih d c hd hd7 h0 h1=>by
 refine Ev.succ ?_;show Ev (fun n=>wX n _ (.mk k nm ks) d c) _;unfold wX;simp only[pt,pf,Ty.kind,Ty.name,Ty.kids];rw[wrap64 (by omega) (by omega)];by_cases hd6:d≤6
 case neg=>
  rw[decide_eq_true (show 6<d by omega),decide_eq_false hd6];simp only[qBU,qBL,cond_false];exact Ev.ret _
 by_cases hc:c+1≤16
 case neg=>
  rw[decide_eq_false (show ¬6<d by omega),decide_eq_true (show 16<c+1 by omega),decide_eq_false hc];simp only[qBL,cond_false,cond_true];exact Ev.ret _
 rw[decide_eq_false (show ¬6<d by omega),decide_eq_false (show ¬16<c+1 by omega),decide_eq_true hd6,decide_eq_true hc];simp only[cond_false,qAO];have hloop:=Lu ks (fun n k' i s=>vQ n (nJ n) (.mk k nm ks) d k' (s,i)) (fun n x s=>(nJ n x (IntKind.wrap .i64 (d+1)) s).bind fun x2=>cond (decide (x2<0)) (some (.rt (-1))) (some (.nx x2)))
  (fun x s=>cond (decide (pt x (d+1) s<0)) (.rt (-1)) (.nx (pt x (d+1) s))) (fun s=>s) (fun _ s=>0≤s∧s≤16)
  (fun n k' i s=>by
   show cond _ _ _=_;congr 1;show(idx ks i).bind _=_;congr 1;funext x;dsimp only;cases nJ n x (IntKind.wrap .i64 (d+1)) s with
   |none=>rfl
   |some b=>simp only[qAb];cases decide (b<0)<;>rfl)
  (fun x suf s hx hs=>⟨by
   rw[wrap64 (by omega) (by omega)];refine Ev.bind (ih x hx (d+1) s (by omega) (by omega) hs.1 hs.2) ?_;cases decide (pt x (d+1) s<0)
   ·exact Ev.ret _
   ·exact Ev.ret _,fun s' he=>by
    cases hb:decide (pt x (d+1) s<0)with
    |true=>rw[hb]at he;cases he
    |false=>
     rw[hb]at he;simp only[cond_false,LR.nx.injEq]at he;have hneg:¬pt x (d+1) s<0:=of_decide_eq_false hb;subst he;unfold pt at hneg⊢;cases hb2:(pf x (d+1) s).1 with
     |false=>rw[hb2]at hneg;simp at hneg
     |true=>have:=GV x (d+1) s hb2;simp only[cond_true];omega⟩) (s0:=c+1) ⟨by omega,hc⟩
 rw[Uj _ _ _ (by omega)]at hloop;have hkids:Ev (fun n=>(vQ n (nJ n) (.mk k nm ks) d n (c+1,0)).bind (LR.el (fun(s5:Int)=>some s5) (fun r=>some r))) (cond (jE ks (d+1) (c+1)).1 (jE ks (d+1) (c+1)).2 (-1)):=by
  refine Ev.bind hloop ?_;cases(jE ks (d+1) (c+1)).1
  ·exact Ev.ret _
  ·exact Ev.ret _
 have hend:∀m:Nat,Ev (fun n=>(((cond ((ks.length:Int)!=(m:Int)) (some true) (cond (k==3) ((jh n nm).bind fun(x3:Bool)=>(cond (!x3) (some true) (cond (k !=3) (some (!(nm==([]:Str)))) (some false)))) (cond (k !=3) (some (!(nm==([]:Str)))) (some false)))):Option Bool).bind fun(s3:Bool)=>(cond s3 (some (-1)) ((vQ n (nJ n) (.mk k nm ks) d n (c+1,0)).bind (LR.el (fun(s5:Int)=>some s5) (fun r=>some r))))))
   (cond ((ks.length==m)&&cond (k==3) (ident nm) (nm==[])) (cond (jE ks (d+1) (c+1)).1 (jE ks (d+1) (c+1)).2 (-1)) (-1)):=fun m=>by
  rw[SA];cases ks.length==m with
  |false=>exact Ev.ret _
  |true=>
   simp only[qAT,cond_false,qAO,bne];cases k==3 with
   |true=>
    simp only[cond_true,qAT,cond_false];refine Ev.bind (a:=!(ident nm)) (Ev.bind (nN nm) ?_) ?_
    ·cases ident nm
     ·exact Ev.ret _
     ·exact Ev.ret _
    ·cases ident nm
     ·exact Ev.ret _
     ·exact hkids
   |false=>
    simp only[cond_false,qBK,cond_true,qAb];cases nm==([]:Str)with
    |false=>exact Ev.ret _
    |true=>exact hkids
 have hpair:∀b:Bool,(cond (cond b (jE ks (d+1) (c+1)) (false,c+1)).1 (cond b (jE ks (d+1) (c+1)) (false,c+1)).2 (-1):Int)=cond b (cond (jE ks (d+1) (c+1)).1 (jE ks (d+1) (c+1)).2 (-1)) (-1):=fun b=>by cases b<;>rfl
 rw[hpair];by_cases e1:k=1
 ·subst e1;have:=hend 0;simpa[fQ]using this
 by_cases e2:k=2
 ·subst e2;cases hf:decide (1<d)with
  |true=>
   have:fQ 2 nm ks.length d=false:=by simp[fQ,hf]
   rw[this];exact Ev.of fun n=>by simp
  |false=>
   have:=hend 0;simpa[fQ,hf]using this
 by_cases e3:k=3
 ·subst e3;have:=hend 0;simpa[fQ]using this
 by_cases e4:k=4
 ·subst e4;have:=hend 2;simpa[fQ]using this
 by_cases e5:k=5
 ·subst e5;have:=hend 1;simpa[fQ]using this
 ·have:fQ k nm ks.length d=false:=by simp[fQ,e1,e2,e3,e4,e5]
  rw[this];refine Ev.of fun n=>?_;have b1:=beq_false_of_ne e1;have b2:=beq_false_of_ne e2;have b3:=beq_false_of_ne e3;have b4:=beq_false_of_ne e4;have b5:=beq_false_of_ne e5;simp only[b1,b2,b3,b4,b5,cond_false,qAb,LR.el]
theorem Lv(t:Ty):Ev (fun n=>zP n t) (jw t):=by
 refine Ev.bind (typed t 1 0 (by omega) (by omega) (by omega) (by omega)) ?_;unfold pt jw;cases hb:(pf t 1 0).1 with
 |false=>exact Ev.ret _
 |true=>
  have:=GV t 1 0 hb;simp only[cond_true];rw[decide_eq_true (by omega)];exact Ev.ret _
end
section
open Go
theorem NU{α σ τ ρ:Type}(f:α→σ→σ)(fin:σ→τ):∀(l:List α) (s:σ),bW (ρ:=ρ) (fun x s=>.nx (f x s)) fin l s=.nx (fin (l.foldl (fun s x=>f x s) s))
 |[],_=>rfl
 |x::xs,s=>NU f fin xs (f x s)
theorem zm{α σ τ ρ:Type}(l:List α)(L:Nat→Nat→Int→σ→Option (LR τ ρ))(step:Nat→α→σ→Option σ)(f:α→σ→σ)(fin:σ→τ)(I:List α→σ→Prop)
  (hL:∀n k i s,L n (k+1) i s=cond (decide (i<(l.length:Int))) ((idx l i).bind fun x=>(step n x s).bind fun s'=>L n k (i+1) s') (some (.nx (fin s))))
  (hI:∀x suf s,x∈l→I (x::suf) s→Ev (fun n=>step n x s) (f x s)∧I suf (f x s)) {s0:σ} (h0:I l s0):Ev (fun n=>L n n 0 s0) (.nx (fin (l.foldl (fun s x=>f x s) s0))):=by
 rw[←NU f fin];refine Lu l L (fun n x s=>(step n x s).bind fun s'=>some (.nx s')) (fun x s=>.nx (f x s)) fin I (fun n k i s=>?_) (fun x suf s hx hs=>?_) h0
 ·rw[hL];congr 1;congr 1;funext x
  grind
 ·obtain⟨h1,h2⟩:=hI x suf s hx hs;exact⟨Ev.bind h1 (Ev.ret _),fun s' h=>by cases h;exact h2⟩
theorem dU{α:Type}{b:Nat}{l ys:List α}(h:l.length+ys.length≤1000000)(hb:b≤1000):app b l ys=some (l++ys):=by
 unfold app;have:=Nat.mul_le_mul h hb
 grind
theorem qL{α:Type}:∀(l s:List α),l.foldl (fun s x=>s++[x]) s=s++l
 |[],s=>by simp
 |x::l,s=>by simp[qL l]
mutual
def tZ:Ty→List Str
 | .mk k nm ks=>cond (k==3) [nm] (zo ks)
def zo:List Ty→List Str
 |[]=>[]
 |t::ts=>tZ t++zo ts
end
mutual
def uE:Ty→Bool
 | .mk k _ ks=>(decide (ks.length≤2)&&(k !=3 ||ks.length==0))&&Bg ks
def Bg:List Ty→Bool
 |[]=>true
 |t::ts=>uE t&&Bg ts
end
theorem Dr:∀{ts:List Ty},Bg ts=true→∀t∈ts,uE t=true
 |[],_,t,h=>by cases h
 |u::ts,h,t,ht=>by
  simp only[Bg,qAa]at h;rcases qAh.1 ht with rfl|ht
  ·exact h.1
  ·exact Dr h.2 t ht
theorem acZ{k:Int}{nm:Str}{len:Nat}{d:Int}(h:fQ k nm len d=true):len≤2∧(k=3→len=0):=by
 unfold fQ at h
 grind
mutual
theorem abR:∀(t:Ty) (d c:Int),(pf t d c).1=true→uE t=true∧((tZ t).length:Int)≤(pf t d c).2 - c
 | .mk k nm ks,d,c,h=>by
  simp only[pf]at h⊢;cases hb:((decide (c+1≤16)&&decide (d≤6))&&fQ k nm ks.length d)with
  |false=>rw[hb]at h;cases h
  |true=>
   rw[hb]at h;simp only[cond_true]at h⊢;simp only[qAa]at hb;have hh:=acZ hb.2;have h1:=XJ ks (d+1) (c+1) h;have h2:=QV ks (d+1) (c+1) h;constructor
   ·simp only[uE,h1.1,qBv,qAa,decide_eq_true_eq,qBg,bne_iff_ne,beq_iff_eq];refine⟨hh.1,?_⟩;by_cases e:k=3
    ·exact .inr (hh.2 e)
    ·exact .inl e
   ·simp only[tZ];cases k==3 with
    |true=>simp only[cond_true,qBO];omega
    |false=>simp only[cond_false];omega
theorem XJ:∀(ts:List Ty) (d c:Int),(jE ts d c).1=true→Bg ts=true∧((zo ts).length:Int)≤(jE ts d c).2 - c
 |[],_,c,_=>by simp[jE,Bg,zo]
 |t::ts,d,c,h=>by
  simp only[jE]at h⊢;cases hb:(pf t d c).1 with
  |false=>rw[hb]at h;cases h
  |true=>
   rw[hb]at h;simp only[cond_true]at h⊢;have h1:=abR t d c hb;have h2:=XJ ts d _ h;simp only[Bg,h1.1,h2.1,qBv,zo,qAj];refine⟨trivial,?_⟩;omega
end
theorem Sw{t:Ty}(h:jw t=true):uE t=true∧(tZ t).length≤16:=by
 have h1:=abR t 1 0 h;have h2:=GV t 1 0 h
 grind
theorem Tp:∀t:Ty,uE t=true→Ev (fun n=>jH n t) t:=Ty.ind fun k nm ks ih hok=>by
 refine Ev.succ ?_;show Ev (fun n=>kS n _ (.mk k nm ks)) _;unfold kS;simp only[uE,qAa]at hok;have h:=zm ks (fun n k' i s=>uP n (jH n) (.mk k nm ks) k' (i,s)) (fun n x s=>(jH n x).bind fun x2=>app 48 s [x2]) (fun x s=>s++[x]) (fun s=>s) (fun suf s=>s.length+suf.length≤2)
  (fun n k' i s=>by
   show cond _ _ _=_;congr 1;congr 1;simp only[qBx];rfl)
  (fun x suf s hx hs=>by
   simp at hs;refine⟨Ev.bind (ih x hx (Dr hok.2 x hx)) ?_,?_⟩
   ·rw[dU (by simp;omega) (by omega)];exact Ev.ret _
   ·simp;omega) (s0:=([]:List Ty)) (by simpa using hok.1.1)
 rw[qL]at h;exact Ev.bind h (Ev.ret _)
theorem Ga{α:Type}[BEq α][ReflBEq α](a:α):(a !=a)=false:=by simp[bne]
theorem R7{α:Type}(l:List α):(l.any fun _=>false)=false:=by grind
theorem Tz:∀t:Ty,Ev (fun n=>iB n t t) true:=Ty.ind fun k nm ks ih=>by
 refine Ev.succ ?_;show Ev (fun n=>kI n _ (.mk k nm ks) (.mk k nm ks)) _;unfold kI;simp;have h:=uK ks (fun n k' i=>vC n (iB n) (.mk k nm ks) (.mk k nm ks) k' i) (fun n x=>(iB n x x).bind fun b=>some (!b)) (fun _=>false) false
  (fun n k' i=>by
   show cond _ _ _=_;congr 1;show(idx ks i).bind _=_;cases hx:idx ks i with
   |none=>rfl
   |some x=>
    show((idx ks i).bind _)=_;rw[hx];simp only[qBx];rfl)
  (fun x hx=>Ev.bind (ih x hx) (Ev.ret _))
 rw[R7]at h;exact Ev.bind h (Ev.ret _)
end
section
open Go
end
section
open Go
def H9(s:Str):Ty:=.mk 3 s []
def dG(t:Ty):Ty:=.mk 5 [] [t]
def YJ(env:Env):List (Str×Ty):=(env.names.map fun d=>(d.name,d.ty))++((env.carriers.map fun c=>(c.name,dG (H9 c.name)))++env.carriers.flatMap fun c=>c.elems.map fun e=>(e,H9 c.name))
def look(env:Env)(s:Str):Option Ty:=dY (YJ env) s
end
section
open Go
theorem ac5{α β γ:Type}(l:List α)(l':List β)(i:Int)(F:α→β→Option γ):((idx l i).bind fun x=>(idx l' i).bind fun y=>F x y)=(idx (l.zip l') i).bind fun p=>F p.1 p.2:=by
 unfold idx;by_cases h:0≤i
 ·simp only[if_pos h,List.zip,List.getElem?_zipWith];cases l[i.toNat]?<;>cases l'[i.toNat]?<;>rfl
 ·simp only[if_neg h];rfl
theorem Oa{α β ρ:Type}(l:List α)(l':List β)(hlen:l.length=l'.length)(L:Nat→Nat→Int→Option (LR Unit ρ))(step:Nat→α→β→Option Bool)(p:α→β→Bool)(r:ρ)
  (hL:∀n k i,L n (k+1) i=cond (decide (i<(l.length:Int))) ((idx l i).bind fun x=>(idx l' i).bind fun y=>(step n x y).bind fun b=>cond b (some (.rt r)) (L n k (i+1))) (some (.nx ())))
  (hp:∀x∈l,∀y,Ev (fun n=>step n x y) (p x y)):Ev (fun n=>L n n 0) (cond ((l.zip l').any fun q=>p q.1 q.2) (.rt r) (.nx ())):=by
 refine uK (l.zip l') L (fun n q=>step n q.1 q.2) (fun q=>p q.1 q.2) r (fun n k i=>?_) (fun q hq=>hp q.1 (qCW hq).1 q.2);rw[hL,←ac5 l l' i fun x y=>(step n x y).bind fun b=>cond b (some (.rt r)) (L n k (i+1))];have:((l.zip l').length:Int)=(l.length:Int):=by rw[qBH,←hlen,qDv]
 rw[this]
mutual
def cO:Ty→Ty→Bool
 | .mk k n ks,.mk k' n' ks'=>(k==k')&&((n==n')&&nM ks ks')
def nM:List Ty→List Ty→Bool
 |[],[]=>true
 |[],_::_=>false
 |_::_,[]=>false
 |a::ar,b::br=>cO a b&&nM ar br
end
mutual
theorem yQ:∀a b:Ty,cO a b=true→a=b
 | .mk k n ks,.mk k' n' ks',h=>by
  simp only[cO,qAa,beq_iff_eq]at h;obtain⟨h1,h2,h3⟩:=h;rw[h1,h2,SH ks ks' h3]
theorem SH:∀a b:List Ty,nM a b=true→a=b
 |[],[],_=>rfl
 |[],_::_,h=>by cases h
 |_::_,[],h=>by cases h
 |a::ar,b::br,h=>by
  simp only[nM,qAa]at h;rw[yQ a b h.1,SH ar br h.2]
end
mutual
theorem FV:∀a:Ty,cO a a=true
 | .mk k n ks=>by simp only[cO,beq_self_eq_true,LX ks,qCi]
theorem LX:∀a:List Ty,nM a a=true
 |[]=>rfl
 |a::ar=>by simp only[nM,FV a,LX ar,qCi]
end
theorem E5:∀l l':List Ty,l.length=l'.length→(l.zip l').any (fun q=>!(cO q.1 q.2))=!(nM l l')
 |[],[],_=>rfl
 |[],_::_,h=>by cases h
 |_::_,[],h=>by cases h
 |a::ar,b::br,h=>by
  have:=E5 ar br (by simpa using h);simp only[qCq,qBR,this,nM];cases cO a b<;>rfl
theorem EX:∀l l':List Ty,l.length≠l'.length→nM l l'=false
 |[],[],h=>absurd rfl h
 |[],_::_,_=>rfl
 |_::_,[],_=>rfl
 |a::ar,b::br,h=>by
  have:=EX ar br (by simpa using h);simp only[nM,this,qBU]
theorem aeU{α β:Type}(l:List α)(l':List β):((l.length:Int)!=(l'.length:Int))=!(l.length==l'.length):=SA l.length l'.length
theorem R3:∀t u:Ty,Ev (fun n=>iB n t u) (cO t u):=Ty.ind fun k nm ks ih u=>by
 obtain⟨k',nm',ks'⟩:=u;refine Ev.succ ?_;show Ev (fun n=>kI n _ (.mk k nm ks) (.mk k' nm' ks')) _;unfold kI;simp only[Ty.kind,Ty.name,Ty.kids,cO,bne,aeU];cases k==k' with
 |false=>exact Ev.ret _
 |true=>
  cases nm==nm' with
  |false=>exact Ev.ret _
  |true=>
   simp only[qAT,cond_false,qAb,qAO];cases hl:(ks.length:Int)==(ks'.length:Int)with
   |false=>
    have:ks.length≠ks'.length:=fun e=>by simp[e]at hl
    rw[EX ks ks' this];exact Ev.ret _
   |true=>
    have hlen:ks.length=ks'.length:=by have:=beq_iff_eq.1 hl;omega
    simp only[qAT,cond_false];have h:=Oa ks ks' hlen (fun n k'' i=>vC n (iB n) (.mk k nm ks) (.mk k' nm' ks') k'' i) (fun n x y=>(iB n x y).bind fun b=>some (!b)) (fun x y=>!(cO x y)) false
     (fun n k'' i=>by
      show cond _ _ _=_;congr 1;show(idx ks i).bind _=_;congr 1;funext x;show(idx ks' i).bind _=_;congr 1;funext y;simp only[qBx,qAb];rfl)
     (fun x hx y=>Ev.bind (ih x hx y) (Ev.ret _))
    rw[E5 ks ks' hlen]at h;refine Ev.bind h ?_;cases nM ks ks'
    ·exact Ev.ret _
    ·exact Ev.ret _
end
end Abs
end Go.Proofs.YtfmdmcenjfkbhaaGreatDoor

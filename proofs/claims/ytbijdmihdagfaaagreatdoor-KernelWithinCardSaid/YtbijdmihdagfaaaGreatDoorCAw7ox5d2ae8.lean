/-
  A run that awake asks for. Conditions: none.
-/
import Derived.KernelRfl
import Derived.Test.YtbijdmihdagfaaaGreatDoorCAw1ox8f041c
import Derived.Test.YtbijdmihdagfaaaGreatDoorCAw2ox6426d7
import Derived.Test.YtbijdmihdagfaaaGreatDoorCAw6ox180946
import Derived.Test.YtbijdmihdagfaaaGreatDoorCP7ox3ffca4
set_option linter.all false
namespace Go.Proofs.YtbijdmihdagfaaaGreatDoor
namespace Abs
section
open Go Go.Proofs
def k7:Known:=⟨43,[.str [120,32,60,32,121,32,38,32,120,32,60,61,32,121]],[],.tup [.agg [.int .i64 4,.str [],.int .i64 0,.int .i64 0,.str [],.slice [] .nils,.slice [[.int .i64 12,.str [],.int .i64 0,.int .i64 0,.str [],.slice [] .shared,.slice [[.int .i64 20,.str [120],.int .i64 0,.int .i64 0,.str [],.slice [] .shared,.slice [] .shared],[.int .i64 20,.str [121],.int .i64 0,.int .i64 0,.str [],.slice [] .shared,.slice [] .shared]] .shared],[.int .i64 13,.str [],.int .i64 0,.int .i64 0,.str [],.slice [] .shared,.slice [[.int .i64 20,.str [120],.int .i64 0,.int .i64 0,.str [],.slice [] .shared,.slice [] .shared],[.int .i64 20,.str [121],.int .i64 0,.int .i64 0,.str [],.slice [] .shared,.slice [] .shared]] .shared]] (.tip 0 7)],.int .i64 0,.int .i64 0],[.tip 14]⟩
theorem aoH:runK [] k7.f k7.args k7.H=some (k7.res,k7.H'):=by kernel_rfl
theorem aqo:aR Tryz.prog k7.f k7.args k7.H k7.res k7.H':=lH (m:=[]) (fun _ h=>by cases h) aoH
def k8:Known:=⟨7,[.agg [.slice [] .nils,.slice [[.str [120],.int .i64 1,.str [],.slice [] .shared],[.str [121],.int .i64 1,.str [],.slice [] .shared]] (.tip 0 4),.slice [[.int .i64 12,.str [],.int .i64 0,.int .i64 0,.str [],.slice [] .shared,.slice [[.int .i64 20,.str [120],.int .i64 0,.int .i64 0,.str [],.slice [] .shared,.slice [] .shared],[.int .i64 20,.str [121],.int .i64 0,.int .i64 0,.str [],.slice [] .shared,.slice [] .shared]] .shared]] (.tip 1 7),.int .i64 4,.str [],.int .i64 0,.int .i64 0,.str [],.slice [] .nils,.slice [[.int .i64 12,.str [],.int .i64 0,.int .i64 0,.str [],.slice [] .shared,.slice [[.int .i64 20,.str [120],.int .i64 0,.int .i64 0,.str [],.slice [] .shared,.slice [] .shared],[.int .i64 20,.str [121],.int .i64 0,.int .i64 0,.str [],.slice [] .shared,.slice [] .shared]] .shared],[.int .i64 13,.str [],.int .i64 0,.int .i64 0,.str [],.slice [] .shared,.slice [[.int .i64 20,.str [120],.int .i64 0,.int .i64 0,.str [],.slice [] .shared,.slice [] .shared],[.int .i64 20,.str [121],.int .i64 0,.int .i64 0,.str [],.slice [] .shared,.slice [] .shared]] .shared]] (.tip 2 7)]],[.tip 8,.tip 7,.tip 14],.int .i64 0,[.tip 8,.tip 7,.tip 14]⟩
theorem apw:runK [] k8.f k8.args k8.H=some (k8.res,k8.H'):=by kernel_rfl
theorem arM:aR Tryz.prog k8.f k8.args k8.H k8.res k8.H':=lH (m:=[]) (fun _ h=>by cases h) apw
def k9:Known:=⟨140,[.ptr 0 0],[.box [.slice [] .nils,.slice [[.str [120],.int .i64 1,.str [],.slice [] .shared],[.str [121],.int .i64 1,.str [],.slice [] .shared]] (.tip 1 4),.slice [[.int .i64 12,.str [],.int .i64 0,.int .i64 0,.str [],.slice [] .shared,.slice [[.int .i64 20,.str [120],.int .i64 0,.int .i64 0,.str [],.slice [] .shared,.slice [] .shared],[.int .i64 20,.str [121],.int .i64 0,.int .i64 0,.str [],.slice [] .shared,.slice [] .shared]] .shared]] (.tip 2 7),.int .i64 4,.str [],.int .i64 0,.int .i64 0,.str [],.slice [] .nils,.slice [[.int .i64 12,.str [],.int .i64 0,.int .i64 0,.str [],.slice [] .shared,.slice [[.int .i64 20,.str [120],.int .i64 0,.int .i64 0,.str [],.slice [] .shared,.slice [] .shared],[.int .i64 20,.str [121],.int .i64 0,.int .i64 0,.str [],.slice [] .shared,.slice [] .shared]] .shared],[.int .i64 13,.str [],.int .i64 0,.int .i64 0,.str [],.slice [] .shared,.slice [[.int .i64 20,.str [120],.int .i64 0,.int .i64 0,.str [],.slice [] .shared,.slice [] .shared],[.int .i64 20,.str [121],.int .i64 0,.int .i64 0,.str [],.slice [] .shared,.slice [] .shared]] .shared]] (.tip 3 7),.int .i64 6,.int .i64 0,.str [],.slice [] .nils,.slice [] .nils,.slice [] .nils,.psl 4 10 0],.tip 8,.tip 7,.tip 14,.arr 10 []],.tup [],[.box [.slice [] .nils,.slice [[.str [120],.int .i64 1,.str [],.slice [] .shared],[.str [121],.int .i64 1,.str [],.slice [] .shared]] (.tip 1 4),.slice [[.int .i64 12,.str [],.int .i64 0,.int .i64 0,.str [],.slice [] .shared,.slice [[.int .i64 20,.str [120],.int .i64 0,.int .i64 0,.str [],.slice [] .shared,.slice [] .shared],[.int .i64 20,.str [121],.int .i64 0,.int .i64 0,.str [],.slice [] .shared,.slice [] .shared]] .shared]] (.tip 2 7),.int .i64 4,.str [],.int .i64 0,.int .i64 0,.str [],.slice [] .nils,.slice [[.int .i64 12,.str [],.int .i64 0,.int .i64 0,.str [],.slice [] .shared,.slice [[.int .i64 20,.str [120],.int .i64 0,.int .i64 0,.str [],.slice [] .shared,.slice [] .shared],[.int .i64 20,.str [121],.int .i64 0,.int .i64 0,.str [],.slice [] .shared,.slice [] .shared]] .shared],[.int .i64 13,.str [],.int .i64 0,.int .i64 0,.str [],.slice [] .shared,.slice [[.int .i64 20,.str [120],.int .i64 0,.int .i64 0,.str [],.slice [] .shared,.slice [] .shared],[.int .i64 20,.str [121],.int .i64 0,.int .i64 0,.str [],.slice [] .shared,.slice [] .shared]] .shared]] (.tip 3 7),.int .i64 6,.int .i64 0,.str [],.slice [] .nils,.slice [] .nils,.slice [] .nils,.psl 5 10 2],.tip 8,.tip 7,.tip 14,.dead,.arr 10 [[.slice [] .shared,.slice [[.str [120],.int .i64 1,.str [],.slice [] .shared],[.str [121],.int .i64 1,.str [],.slice [] .shared]] .shared,.slice [[.int .i64 12,.str [],.int .i64 0,.int .i64 0,.str [],.slice [] .shared,.slice [[.int .i64 20,.str [120],.int .i64 0,.int .i64 0,.str [],.slice [] .shared,.slice [] .shared],[.int .i64 20,.str [121],.int .i64 0,.int .i64 0,.str [],.slice [] .shared,.slice [] .shared]] .shared]] .shared,.int .i64 12,.str [],.int .i64 0,.int .i64 0,.str [],.slice [] .shared,.slice [[.int .i64 20,.str [120],.int .i64 0,.int .i64 0,.str [],.slice [] .shared,.slice [] .shared],[.int .i64 20,.str [121],.int .i64 0,.int .i64 0,.str [],.slice [] .shared,.slice [] .shared]] .shared],[.slice [] .shared,.slice [[.str [120],.int .i64 1,.str [],.slice [] .shared],[.str [121],.int .i64 1,.str [],.slice [] .shared]] .shared,.slice [[.int .i64 12,.str [],.int .i64 0,.int .i64 0,.str [],.slice [] .shared,.slice [[.int .i64 20,.str [120],.int .i64 0,.int .i64 0,.str [],.slice [] .shared,.slice [] .shared],[.int .i64 20,.str [121],.int .i64 0,.int .i64 0,.str [],.slice [] .shared,.slice [] .shared]] .shared],[.int .i64 12,.str [],.int .i64 0,.int .i64 0,.str [],.slice [] .shared,.slice [[.int .i64 20,.str [120],.int .i64 0,.int .i64 0,.str [],.slice [] .shared,.slice [] .shared],[.int .i64 20,.str [121],.int .i64 0,.int .i64 0,.str [],.slice [] .shared,.slice [] .shared]] .shared]] .shared,.int .i64 13,.str [],.int .i64 0,.int .i64 0,.str [],.slice [] .shared,.slice [[.int .i64 20,.str [120],.int .i64 0,.int .i64 0,.str [],.slice [] .shared,.slice [] .shared],[.int .i64 20,.str [121],.int .i64 0,.int .i64 0,.str [],.slice [] .shared,.slice [] .shared]] .shared]]]⟩
theorem apJ:runK [] k9.f k9.args k9.H=some (k9.res,k9.H'):=by kernel_rfl
theorem aqD:aR Tryz.prog k9.f k9.args k9.H k9.res k9.H':=lH (m:=[]) (fun _ h=>by cases h) apJ
def k10:Known:=⟨44,[.agg [.slice [] .nils,.slice [[.str [120],.int .i64 1,.str [],.slice [] .shared],[.str [121],.int .i64 1,.str [],.slice [] .shared]] (.tip 0 4),.slice [[.int .i64 12,.str [],.int .i64 0,.int .i64 0,.str [],.slice [] .shared,.slice [[.int .i64 20,.str [120],.int .i64 0,.int .i64 0,.str [],.slice [] .shared,.slice [] .shared],[.int .i64 20,.str [121],.int .i64 0,.int .i64 0,.str [],.slice [] .shared,.slice [] .shared]] .shared]] (.tip 1 7),.int .i64 4,.str [],.int .i64 0,.int .i64 0,.str [],.slice [] .nils,.slice [[.int .i64 12,.str [],.int .i64 0,.int .i64 0,.str [],.slice [] .shared,.slice [[.int .i64 20,.str [120],.int .i64 0,.int .i64 0,.str [],.slice [] .shared,.slice [] .shared],[.int .i64 20,.str [121],.int .i64 0,.int .i64 0,.str [],.slice [] .shared,.slice [] .shared]] .shared],[.int .i64 13,.str [],.int .i64 0,.int .i64 0,.str [],.slice [] .shared,.slice [[.int .i64 20,.str [120],.int .i64 0,.int .i64 0,.str [],.slice [] .shared,.slice [] .shared],[.int .i64 20,.str [121],.int .i64 0,.int .i64 0,.str [],.slice [] .shared,.slice [] .shared]] .shared]] (.tip 2 7)],.agg [.int .i64 6,.int .i64 0,.str [],.slice [] .nils,.slice [] .nils,.slice [] .nils]],[.tip 8,.tip 7,.tip 14],.tup [.psl 3 10 2,.int .i64 0],[.tip 8,.tip 7,.tip 14,.arr 10 [[.slice [] .shared,.slice [[.str [120],.int .i64 1,.str [],.slice [] .shared],[.str [121],.int .i64 1,.str [],.slice [] .shared]] .shared,.slice [[.int .i64 12,.str [],.int .i64 0,.int .i64 0,.str [],.slice [] .shared,.slice [[.int .i64 20,.str [120],.int .i64 0,.int .i64 0,.str [],.slice [] .shared,.slice [] .shared],[.int .i64 20,.str [121],.int .i64 0,.int .i64 0,.str [],.slice [] .shared,.slice [] .shared]] .shared]] .shared,.int .i64 12,.str [],.int .i64 0,.int .i64 0,.str [],.slice [] .shared,.slice [[.int .i64 20,.str [120],.int .i64 0,.int .i64 0,.str [],.slice [] .shared,.slice [] .shared],[.int .i64 20,.str [121],.int .i64 0,.int .i64 0,.str [],.slice [] .shared,.slice [] .shared]] .shared],[.slice [] .shared,.slice [[.str [120],.int .i64 1,.str [],.slice [] .shared],[.str [121],.int .i64 1,.str [],.slice [] .shared]] .shared,.slice [[.int .i64 12,.str [],.int .i64 0,.int .i64 0,.str [],.slice [] .shared,.slice [[.int .i64 20,.str [120],.int .i64 0,.int .i64 0,.str [],.slice [] .shared,.slice [] .shared],[.int .i64 20,.str [121],.int .i64 0,.int .i64 0,.str [],.slice [] .shared,.slice [] .shared]] .shared],[.int .i64 12,.str [],.int .i64 0,.int .i64 0,.str [],.slice [] .shared,.slice [[.int .i64 20,.str [120],.int .i64 0,.int .i64 0,.str [],.slice [] .shared,.slice [] .shared],[.int .i64 20,.str [121],.int .i64 0,.int .i64 0,.str [],.slice [] .shared,.slice [] .shared]] .shared]] .shared,.int .i64 13,.str [],.int .i64 0,.int .i64 0,.str [],.slice [] .shared,.slice [[.int .i64 20,.str [120],.int .i64 0,.int .i64 0,.str [],.slice [] .shared,.slice [] .shared],[.int .i64 20,.str [121],.int .i64 0,.int .i64 0,.str [],.slice [] .shared,.slice [] .shared]] .shared]]]⟩
theorem anx:runK [k4,k9] k10.f k10.args k10.H=some (k10.res,k10.H'):=by kernel_rfl
theorem aoG:aR Tryz.prog k10.f k10.args k10.H k10.res k10.H':=lH (m:=[k4,k9]) (fun e h=>by
 rcases qAh.1 h with rfl|h
 ·exact amr
 rcases qAh.1 h with rfl|h
 ·exact aqD
 cases h) anx
def k11:Known:=⟨45,[.agg [.slice [] .shared,.slice [[.str [120],.int .i64 1,.str [],.slice [] .shared],[.str [121],.int .i64 1,.str [],.slice [] .shared]] .shared,.slice [[.int .i64 12,.str [],.int .i64 0,.int .i64 0,.str [],.slice [] .shared,.slice [[.int .i64 20,.str [120],.int .i64 0,.int .i64 0,.str [],.slice [] .shared,.slice [] .shared],[.int .i64 20,.str [121],.int .i64 0,.int .i64 0,.str [],.slice [] .shared,.slice [] .shared]] .shared]] .shared,.int .i64 12,.str [],.int .i64 0,.int .i64 0,.str [],.slice [] .shared,.slice [[.int .i64 20,.str [120],.int .i64 0,.int .i64 0,.str [],.slice [] .shared,.slice [] .shared],[.int .i64 20,.str [121],.int .i64 0,.int .i64 0,.str [],.slice [] .shared,.slice [] .shared]] .shared]],[],.agg [.slice [] .nils,.slice [[.str [120],.int .i64 1,.str [],.slice [] .shared],[.str [121],.int .i64 1,.str [],.slice [] .shared]] (.tip 0 4),.slice [[.int .i64 12,.str [],.int .i64 0,.int .i64 0,.str [],.slice [] .shared,.slice [[.int .i64 20,.str [120],.int .i64 0,.int .i64 0,.str [],.slice [] .shared,.slice [] .shared],[.int .i64 20,.str [121],.int .i64 0,.int .i64 0,.str [],.slice [] .shared,.slice [] .shared]] .shared]] (.tip 1 7),.int .i64 12,.str [],.int .i64 0,.int .i64 0,.str [],.slice [] .nils,.slice [[.int .i64 20,.str [120],.int .i64 0,.int .i64 0,.str [],.slice [] .shared,.slice [] .shared],[.int .i64 20,.str [121],.int .i64 0,.int .i64 0,.str [],.slice [] .shared,.slice [] .shared]] (.tip 2 7)],[.tip 8,.tip 7,.tip 14]⟩
theorem anA:runK [] k11.f k11.args k11.H=some (k11.res,k11.H'):=by kernel_rfl
theorem ao2:aR Tryz.prog k11.f k11.args k11.H k11.res k11.H':=lH (m:=[]) (fun _ h=>by cases h) anA
def k12:Known:=⟨45,[.agg [.slice [] .shared,.slice [[.str [120],.int .i64 1,.str [],.slice [] .shared],[.str [121],.int .i64 1,.str [],.slice [] .shared]] .shared,.slice [[.int .i64 12,.str [],.int .i64 0,.int .i64 0,.str [],.slice [] .shared,.slice [[.int .i64 20,.str [120],.int .i64 0,.int .i64 0,.str [],.slice [] .shared,.slice [] .shared],[.int .i64 20,.str [121],.int .i64 0,.int .i64 0,.str [],.slice [] .shared,.slice [] .shared]] .shared],[.int .i64 12,.str [],.int .i64 0,.int .i64 0,.str [],.slice [] .shared,.slice [[.int .i64 20,.str [120],.int .i64 0,.int .i64 0,.str [],.slice [] .shared,.slice [] .shared],[.int .i64 20,.str [121],.int .i64 0,.int .i64 0,.str [],.slice [] .shared,.slice [] .shared]] .shared]] .shared,.int .i64 13,.str [],.int .i64 0,.int .i64 0,.str [],.slice [] .shared,.slice [[.int .i64 20,.str [120],.int .i64 0,.int .i64 0,.str [],.slice [] .shared,.slice [] .shared],[.int .i64 20,.str [121],.int .i64 0,.int .i64 0,.str [],.slice [] .shared,.slice [] .shared]] .shared]],[],.agg [.slice [] .nils,.slice [[.str [120],.int .i64 1,.str [],.slice [] .shared],[.str [121],.int .i64 1,.str [],.slice [] .shared]] (.tip 0 4),.slice [[.int .i64 12,.str [],.int .i64 0,.int .i64 0,.str [],.slice [] .shared,.slice [[.int .i64 20,.str [120],.int .i64 0,.int .i64 0,.str [],.slice [] .shared,.slice [] .shared],[.int .i64 20,.str [121],.int .i64 0,.int .i64 0,.str [],.slice [] .shared,.slice [] .shared]] .shared],[.int .i64 12,.str [],.int .i64 0,.int .i64 0,.str [],.slice [] .shared,.slice [[.int .i64 20,.str [120],.int .i64 0,.int .i64 0,.str [],.slice [] .shared,.slice [] .shared],[.int .i64 20,.str [121],.int .i64 0,.int .i64 0,.str [],.slice [] .shared,.slice [] .shared]] .shared]] (.tip 1 7),.int .i64 13,.str [],.int .i64 0,.int .i64 0,.str [],.slice [] .nils,.slice [[.int .i64 20,.str [120],.int .i64 0,.int .i64 0,.str [],.slice [] .shared,.slice [] .shared],[.int .i64 20,.str [121],.int .i64 0,.int .i64 0,.str [],.slice [] .shared,.slice [] .shared]] (.tip 2 7)],[.tip 8,.tip 14,.tip 14]⟩
theorem anI:runK [] k12.f k12.args k12.H=some (k12.res,k12.H'):=by kernel_rfl
theorem an3:aR Tryz.prog k12.f k12.args k12.H k12.res k12.H':=lH (m:=[]) (fun _ h=>by cases h) anI
def k13:Known:=⟨15,[.agg [.slice [] .nils,.slice [[.str [120],.int .i64 1,.str [],.slice [] .shared],[.str [121],.int .i64 1,.str [],.slice [] .shared]] (.tip 0 4),.slice [[.int .i64 12,.str [],.int .i64 0,.int .i64 0,.str [],.slice [] .shared,.slice [[.int .i64 20,.str [120],.int .i64 0,.int .i64 0,.str [],.slice [] .shared,.slice [] .shared],[.int .i64 20,.str [121],.int .i64 0,.int .i64 0,.str [],.slice [] .shared,.slice [] .shared]] .shared]] (.tip 1 7),.int .i64 4,.str [],.int .i64 0,.int .i64 0,.str [],.slice [] .nils,.slice [[.int .i64 12,.str [],.int .i64 0,.int .i64 0,.str [],.slice [] .shared,.slice [[.int .i64 20,.str [120],.int .i64 0,.int .i64 0,.str [],.slice [] .shared,.slice [] .shared],[.int .i64 20,.str [121],.int .i64 0,.int .i64 0,.str [],.slice [] .shared,.slice [] .shared]] .shared],[.int .i64 13,.str [],.int .i64 0,.int .i64 0,.str [],.slice [] .shared,.slice [[.int .i64 20,.str [120],.int .i64 0,.int .i64 0,.str [],.slice [] .shared,.slice [] .shared],[.int .i64 20,.str [121],.int .i64 0,.int .i64 0,.str [],.slice [] .shared,.slice [] .shared]] .shared]] (.tip 2 7)],.agg [.int .i64 6,.int .i64 0,.str [],.slice [] .nils,.slice [] .nils,.slice [] .nils]],[.tip 8,.tip 7,.tip 14],.tup [.slice [[.slice [] .shared,.slice [[.str [120],.int .i64 1,.str [],.slice [] .shared],[.str [121],.int .i64 1,.str [],.slice [] .shared]] .shared,.slice [[.int .i64 12,.str [],.int .i64 0,.int .i64 0,.str [],.slice [] .shared,.slice [[.int .i64 20,.str [120],.int .i64 0,.int .i64 0,.str [],.slice [] .shared,.slice [] .shared],[.int .i64 20,.str [121],.int .i64 0,.int .i64 0,.str [],.slice [] .shared,.slice [] .shared]] .shared]] .shared,.int .i64 12,.str [],.int .i64 0,.int .i64 0,.str [],.slice [] .shared,.slice [[.int .i64 20,.str [120],.int .i64 0,.int .i64 0,.str [],.slice [] .shared,.slice [] .shared],[.int .i64 20,.str [121],.int .i64 0,.int .i64 0,.str [],.slice [] .shared,.slice [] .shared]] .shared],[.slice [] .shared,.slice [[.str [120],.int .i64 1,.str [],.slice [] .shared],[.str [121],.int .i64 1,.str [],.slice [] .shared]] .shared,.slice [[.int .i64 12,.str [],.int .i64 0,.int .i64 0,.str [],.slice [] .shared,.slice [[.int .i64 20,.str [120],.int .i64 0,.int .i64 0,.str [],.slice [] .shared,.slice [] .shared],[.int .i64 20,.str [121],.int .i64 0,.int .i64 0,.str [],.slice [] .shared,.slice [] .shared]] .shared],[.int .i64 12,.str [],.int .i64 0,.int .i64 0,.str [],.slice [] .shared,.slice [[.int .i64 20,.str [120],.int .i64 0,.int .i64 0,.str [],.slice [] .shared,.slice [] .shared],[.int .i64 20,.str [121],.int .i64 0,.int .i64 0,.str [],.slice [] .shared,.slice [] .shared]] .shared]] .shared,.int .i64 13,.str [],.int .i64 0,.int .i64 0,.str [],.slice [] .shared,.slice [[.int .i64 20,.str [120],.int .i64 0,.int .i64 0,.str [],.slice [] .shared,.slice [] .shared],[.int .i64 20,.str [121],.int .i64 0,.int .i64 0,.str [],.slice [] .shared,.slice [] .shared]] .shared]] (.tip 3 10),.int .i64 0],[.tip 8,.tip 7,.tip 14,.tip 20]⟩
theorem anV:runK [k3,k5,k8,k10,k11,k12] k13.f k13.args k13.H=some (k13.res,k13.H'):=by kernel_rfl
theorem aoy:aR Tryz.prog k13.f k13.args k13.H k13.res k13.H':=lH (m:=[k3,k5,k8,k10,k11,k12]) (fun e h=>by
 rcases qAh.1 h with rfl|h
 ·exact ama
 rcases qAh.1 h with rfl|h
 ·exact al6
 rcases qAh.1 h with rfl|h
 ·exact arM
 rcases qAh.1 h with rfl|h
 ·exact aoG
 rcases qAh.1 h with rfl|h
 ·exact ao2
 rcases qAh.1 h with rfl|h
 ·exact an3
 cases h) anV
theorem ahX{P:Program}{te:Nat}{e:Ent}(h1:ah P e.f=true)(h2:Aj e=true)(hp:e.pe=none)(h:∀x y,e.F x=some y→∀y',HEq y' y→aR P e.f (aQ (bV bg e.ps (dG _ x) (bQ e.na) []).2 (bV bg e.ps (dG _ x) (bQ e.na) []).1) (aD (bV bg e.ps (dG _ x) (bQ e.na) []).2)
  (av (bV bg e.rs (dG _ (e.out y')) (bQ e.nr) (bV bg e.ps (dG _ x) (bQ e.na) []).2).2 (res1 (bV bg e.rs (dG _ (e.out y')) (bQ e.nr) (bV bg e.ps (dG _ x) (bQ e.na) []).2).1)) (aD (bV bg e.rs (dG _ (e.out y')) (bQ e.nr) (bV bg e.ps (dG _ x) (bQ e.na) []).2).2)):aj P te e:=by
 obtain⟨f,na,ps,nr,rs,R,pe,g,F,out⟩:=e;cases hp;refine⟨h1,h2,fun x y hF t h' hb=>?_⟩;have:=h x y hF y HEq.rfl;intro r h2 hb2
 grind
theorem ajK{α:Type}{o:Option α}{y:α}(h:o=some y):o.bind some=some y:=by rw[h];rfl
theorem RH(n:Nat):aj Tryz.prog TE (Qw n):=aeb (n:=n) (τ:=τ) (θ:=θ) some rG (by kernel_rfl) (by kernel_rfl) @Tryz.func103 (by kernel_rfl) (by kernel_rfl) rfl rfl (fun _ _ h=>Option.some.inj h▸rfl) rfl rfl rfl rfl rfl rfl rfl @Tryz.underlying47 (fun _=>by kernel_rfl) (by kernel_rfl) fun _ _ h=>Mi (te:=TE) (θ:=θ) (n:=n) (p:=5) rG (by kernel_rfl) (by kernel_rfl) (Ct (qAr 0)) (Eq.trans (by kernel_rfl) (ajK h))
theorem IL(n:Nat):aj Tryz.prog TE (IK n):=aeb (n:=n) (τ:=τ) (θ:=θ) some rG (by kernel_rfl) (by kernel_rfl) @Tryz.func85 (by kernel_rfl) (by kernel_rfl) rfl rfl (fun _ _ h=>Option.some.inj h▸rfl) rfl rfl rfl rfl rfl rfl rfl @Tryz.underlying59 (fun _=>by kernel_rfl) (by kernel_rfl) fun _ _ h=>Mi (te:=TE) (θ:=θ) (n:=n) (p:=5) rG (by kernel_rfl) (by kernel_rfl) (Ct (qAr 0)) (Eq.trans (by kernel_rfl) (ajK h))
theorem Kj(n:Nat):aj Tryz.prog TE (Ke n):=ahX am2 (by kernel_rfl) rfl fun x y h y' hy=>by
 cases hy;exact II n x y h
theorem aog:ah Tryz.prog 16=true:=by kernel_rfl
theorem afp(n:Nat)(cs:List Carrier)(ds:List Decl)(hs:List Tm)(op:Int)(nm:Str)(m k:Int)(tn:Str)(ks:List Ty)(kids:List Tm)(y:List Tm)(h:iV n ⟨⟨cs,ds⟩,hs,.mk op nm m (.mk k tn ks) kids⟩=some y):
  aR Tryz.prog 16 [.agg [.slice (cs.map fF) .shared,.slice (ds.map d9) .shared,.slice (hs.map dR) .shared,.int .i64 op,.str nm,.int .i64 m,.int .i64 k,.str tn,.slice (ks.map iL) .shared,.slice (kids.map dR) .shared]] [] (.slice (y.map dR) .shared) []:=by
 unfold iV at h;have hl:hs.length≤100000:=by
  apply qAl;intro hn;rw[decide_eq_false hn]at h;cases h
 rw[decide_eq_true hl]at h;have e:=Option.some.inj h;subst e;have:=aag (cs.map fF) (ds.map d9) (hs.map dR) op m k nm tn (ks.map iL) (kids.map dR) (fun g=>YJ g hs) (by
  rw[List.all_map,qAC];rintro⟨a,b,c,⟨d,e,f⟩,g⟩ _;simp only[Function.comp_apply,dR,iL];rfl) (fun g=>agq g ks) (fun g=>YJ g kids) (by simpa using hl)
 have e2:(hs++[Tm.mk op nm m (.mk k tn ks) kids]).map dR=hs.map dR++[[.int .i64 op,.str nm,.int .i64 m,.int .i64 k,.str tn,.slice (ks.map iL) .shared,.slice (kids.map dR) .shared]]:=by
  rw[qBa,qAF,qCZ,jM];rfl
 rw[e2];exact this
theorem EF(n:Nat):aj Tryz.prog TE (TF n):=ahX aog (by kernel_rfl) rfl fun x y h y' hy=>by
 cases hy;obtain⟨cs,ds,hs,op,nm,m,k,tn,ks,kids⟩:=x;exact afp n cs ds hs op nm m k tn ks kids y h
theorem aj6:runK [k1,k2,k6,k7,k13] 6 [] []=some (.bool true,[]):=by kernel_rfl
theorem afJ:aR Tryz.prog 6 [] [] (.bool true) []:=lH (m:=[k1,k2,k6,k7,k13]) (fun e h=>by
 rcases qAh.1 h with rfl|h
 ·exact aq0
 rcases qAh.1 h with rfl|h
 ·exact arV
 rcases qAh.1 h with rfl|h
 ·exact arv
 rcases qAh.1 h with rfl|h
 ·exact aqo
 rcases qAh.1 h with rfl|h
 ·exact aoy
 cases h) aj6
theorem arF:ah Tryz.prog 6=true:=by kernel_rfl
theorem YD(n:Nat):aj Tryz.prog TE (ah9 n):=ahX arF (by kernel_rfl) rfl fun x y h y' hy=>by
 cases hy;have e:true=y:=Option.some.inj h;subst e;exact afJ
end
section
open Go Go.Proofs
set_option maxRecDepth 100000
theorem Xq(n:Nat):aj Tryz.prog TE (XB n):=MKS n [(3,.jn [.r 2 .B] false)] .n @Tryz.func5
theorem NW(n:Nat):aj Tryz.prog TE (Ox n):=MKS n [(3,.jn [.r 2 .B] false)] .n @Tryz.func88
theorem ZJ(n:Nat):aj Tryz.prog TE (KA n):=MKS n [(26,.jn [.r 4 .B] false)] .n @Tryz.func89
theorem acI(n:Nat):aj Tryz.prog TE (QC n):=MKS n [(3,.jn [.r 2 .B] false)] .n @Tryz.func164
theorem abv(n:Nat):aj Tryz.prog TE (N7 n):=MKS n [(3,.jn [.r 2 .B] false)] (.c (NW n) (.c (acI n) .n)) @Tryz.func90
theorem l9(n:Nat):aj Tryz.prog TE (Ez n):=MKS n [(6,.jn [.r 20 .B] false),(58,.lp [.r 23 .I] 0 [])] (.c (NW n) (.c (ZJ n) (.c (abv n) .n))) @Tryz.func47
theorem yj(n:Nat):aj Tryz.prog TE (nD n):=MKS n [(3,.jn [.r 4 .B] false)] .n @Tryz.func226
theorem xS(n:Nat):aj Tryz.prog TE (mO n):=MKS n [] (.c (yj n) .n) @Tryz.func165
theorem zJ(n:Nat):aj Tryz.prog TE (zQ n):=MKS n [] (.c (xS n) .n) @Tryz.func91
theorem Tx(n:Nat):aj Tryz.prog TE (EG n):=MKS n [] (.c (zJ n) (.c (l9 n) .n)) @Tryz.func48
theorem z8(n:Nat):aj Tryz.prog TE (Ab n):=MKS n [(7,.jn [.r 4 .B] false)] .n @Tryz.func98
theorem dK:∀n,aj Tryz.prog TE (nU n)∧aj Tryz.prog TE (lV n)∧aj Tryz.prog TE (nQ n)∧aj Tryz.prog TE (mF n)
 |0=>⟨oF (fn:=Tryz.f228) (by kernel_rfl) fun _=>rfl,oF (fn:=Tryz.f167) (by kernel_rfl) fun _=>rfl,oF (fn:=Tryz.f166) (by kernel_rfl) fun _=>rfl,oF (fn:=Tryz.f227) (by kernel_rfl) fun _=>rfl⟩
 |n+1=>⟨MKS n [(26,.lp [.r 8 .I,.o 1 (.bx [(0,.lf (.n .i64))])] 0 [.o 1 (.bx [(0,.lf (.n .i64))])])] (.c (dK n).2.2.2 .n) @Tryz.func228,
  MKS n [] (.c (dK n).1 .n) @Tryz.func167,
  MKS n [(15,.jn [.r 9 .I] true),(62,.jn [.r 45 .B] false)] (.c (z8 n) (.c (l9 n) (.c (dK n).2.1 .n))) @Tryz.func166,
  MKS n [] (.c (dK n).2.2.1 .n) @Tryz.func227⟩
theorem Iq(n:Nat):aj Tryz.prog TE (nQ n):=(dK n).2.2.1
theorem nE(n:Nat):aj Tryz.prog TE (Gb n):=MKS n [] (.c (Iq n) .n) @Tryz.func92
theorem dw:∀n,aj Tryz.prog TE (mI n)∧aj Tryz.prog TE (kQ n)∧aj Tryz.prog TE (xg n)∧aj Tryz.prog TE (tY n)
 |0=>⟨oF (fn:=Tryz.f228) (by kernel_rfl) fun _=>rfl,oF (fn:=Tryz.f167) (by kernel_rfl) fun _=>rfl,oF (fn:=Tryz.f93) (by kernel_rfl) fun _=>rfl,oF (fn:=Tryz.f168) (by kernel_rfl) fun _=>rfl⟩
 |n+1=>⟨MKS n [(26,.lp [.r 8 .I] 0 [])] (.c (dw n).2.2.2 .n) @Tryz.func228,
  MKS n [] (.c (dw n).1 .n) @Tryz.func167,
  MKS n [(3,.jn [.r 4 .B] false)] (.c (dw n).2.1 .n) @Tryz.func93,
  MKS n [] (.c (dw n).2.2.1 .n) @Tryz.func168⟩
theorem SQ(n:Nat):aj Tryz.prog TE (xg n):=(dw n).2.2.1
theorem OU(n:Nat):aj Tryz.prog TE (AL n):=MKS n [(3,.jn [.r 2 .B] false)] (.c (nE n) (.c (SQ n) .n)) @Tryz.func49
theorem Ij:∀n,aj Tryz.prog TE (F6 n)
 |0=>oF (fn:=Tryz.f170) (by kernel_rfl) fun _=>rfl
 |n+1=>MKS n [(3,.jn [.o 0 (.mp .b)] false),(30,.lp [.r 15 .I,.o 0 (.mp .b),.o 1 .dead] 0 [.o 0 (.mp .b),.o 1 .dead])] (.c (Ij n) .n) @Tryz.func170
theorem Vj(n:Nat):aj Tryz.prog TE (H8 n):=MKS n [] .n @Tryz.func172
theorem EN(n:Nat):aj Tryz.prog TE (EM n):=MKS n [] (.c (nE n) (.c (Ij n) (.c (Vj n) (.c (Kj n) .n)))) @Tryz.func95
theorem KY(n:Nat):aj Tryz.prog TE (y7 n):=MKS n [] .n @Tryz.func173
theorem Ec(n:Nat):aj Tryz.prog TE (su n):=MKS n [(26,.lp [.r 8 .I] 0 [])] (.c (KY n) .n) @Tryz.func70
theorem Al(n:Nat):aj Tryz.prog TE (pI n):=MKS n [] (.c (Ec n) .n) @Tryz.func31
theorem OX(n:Nat):aj Tryz.prog TE (Ap n):=MKS n [] (.c (Al n) .n) @Tryz.func97
theorem Pe(n:Nat):aj Tryz.prog TE (Au n):=MKS n [] (.c (OX n) .n) @Tryz.func96
theorem E9(n:Nat):aj Tryz.prog TE (uE n):=MKS n [(26,.lp [.r 8 .I] 0 [])] (.c (Pe n) .n) @Tryz.func169
theorem BQ(n:Nat):aj Tryz.prog TE (qx n):=MKS n [] (.c (E9 n) .n) @Tryz.func94
theorem SG(n:Nat):aj Tryz.prog TE (EB n):=MKS n [] (.c (EN n) (.c (BQ n) .n)) @Tryz.func50
theorem SI(n:Nat):aj Tryz.prog TE (Er n):=MKS n [(58,.lp [.w (.own .s),.r 3 (.own 1),.r 11 .I] 0 [.w (.own .s),.r 3 (.own 1)]),(122,.lp [.w (.own .s),.r 3 (.own 2),.r 27 .I,.o 0 .dead,.o 1 .dead] 2 [.w (.own .s),.r 3 (.own 2),.o 0 .dead,.o 1 .dead])] .n @Tryz.func52
theorem SK(n:Nat):aj Tryz.prog TE (El n):=MKS n [(58,.lp [.r 9 .I,.o 0 (.mp .b)] 0 [.o 0 .dead]),(7474,.jn [.r 15 .B] false)] .n @Tryz.func51
theorem Et(n:Nat):aj Tryz.prog TE (Es n):=MKS n [(6,.jn [.r 18 .B] false),(58,.lp [.r 22 .I] 0 []),(122,.lp [.r 51 .I] 4 []),(7474,.jn [.r 35 .B] false),(7833,.jn [.r 71 .B] false),(29902,.lp [.r 39 .I,.o 1 .dead] 2 [.o 1 .dead])] (.c (l9 n) (.c (Tx n) (.c (OU n) (.c (SG n) (.c (SI n) (.c (SK n) .n)))))) @Tryz.func17
theorem ae6(n:Nat):aj Tryz.prog TE (Uj n):=MKS n [(12,.jn [.r 4 .B] false),(51,.jn [.r 15 .B] false),(831,.jn [.r 31 .B] false),(1647,.jn [.r 15 .B] false)] .n @Tryz.func174
theorem adK(n:Nat):aj Tryz.prog TE (Rt n):=MKS n [] (.c (zJ n) (.c (l9 n) .n)) @Tryz.func175
theorem N8(n:Nat):aj Tryz.prog TE (Ot n):=MKS n [(3,.jn [.r 2 .B] false)] .n @Tryz.func117
theorem WZ(n:Nat):aj Tryz.prog TE (J3 n):=MKS n [(3,.jn [.r 2 .B] false)] .n @Tryz.func176
theorem abt(n:Nat):aj Tryz.prog TE (Oz n):=MKS n [(7,.jn [.r 4 .B] true),(15,.jn [.r 4 .B] false),(28,.jn [.r 14 .B] false),(63,.jn [.r 2 .B] false),(227,.jn [.r 14 .B] false),(250,.jn [.r 2 .B] false)] (.c (ae6 n) (.c (adK n) (.c (N8 n) (.c (l9 n) (.c (nE n) (.c (WZ n) .n)))))) @Tryz.func99
theorem dx:∀n,aj Tryz.prog TE (mq n)∧aj Tryz.prog TE (kN n)∧aj Tryz.prog TE (uh n)∧aj Tryz.prog TE (pY n)
 |0=>⟨oF (fn:=Tryz.f53) (by kernel_rfl) fun _=>rfl,oF (fn:=Tryz.f18) (by kernel_rfl) fun _=>rfl,oF (fn:=Tryz.f54) (by kernel_rfl) fun _=>rfl,oF (fn:=Tryz.f100) (by kernel_rfl) fun _=>rfl⟩
 |n+1=>⟨MKS n [(26,.lp [.r 8 .I,.o 1 (.bx [(0,.lf (.n .i64))])] 0 [.o 1 (.bx [(0,.lf (.n .i64))])])] (.c (dx n).2.2.2 .n) @Tryz.func53,
  MKS n [] (.c (dx n).1 .n) @Tryz.func18,
  MKS n [(6,.jn [.r 15 .B,.o 0 (.bx [(0,.lf (.n .i64))])] false)] (.c (z8 n) (.c (abt n) (.c (dx n).2.1 .n))) @Tryz.func54,
  MKS n [] (.c (dx n).2.2.1 .n) @Tryz.func100⟩
theorem OT(n:Nat):aj Tryz.prog TE (uh n):=(dx n).2.2.1
theorem F9(n:Nat):aj Tryz.prog TE (P5 n):=MKS n [] (.c (OT n) .n) @Tryz.func20
theorem UZ(n:Nat):aj Tryz.prog TE (HZ n):=MKS n [] (.c (F9 n) .n) @Tryz.func19
theorem Ir(n:Nat):aj Tryz.prog TE (wM n):=MKS n [(26,.lp [.r 8 .I] 0 [])] (.c (UZ n) .n) @Tryz.func53
theorem Eh(n:Nat):aj Tryz.prog TE (sK n):=MKS n [] (.c (Ir n) .n) @Tryz.func18
theorem gU(n:Nat):aj Tryz.prog TE (Mg n):=MKS n [] .n @Tryz.func185
theorem ZM(n:Nat):aj Tryz.prog TE (KZ n):=MKS n [(58,.lp [.r 15 .I,.o 1 (.mp .ty)] 0 [.o 1 (.mp .ty)]),(122,.lp [.r 42 .I,.o 1 (.mp .ty),.o 0 .dead] 4 [.o 1 (.mp .ty),.o 0 .dead]),(59806,.lp [.r 30 .I,.o 1 (.mp .ty),.o 2 .dead] 2 [.o 1 (.mp .ty),.o 2 .dead])] (.c (gU n) .n) @Tryz.func177
theorem wu(n:Nat):aj Tryz.prog TE (Mf n):=MKS n [] .n @Tryz.func233
theorem abx(n:Nat):aj Tryz.prog TE (Ov n):=MKS n [(7,.fz [1,0])] .n @Tryz.func232
theorem yh(n:Nat):aj Tryz.prog TE (H7 n):=MKS n [] .n @Tryz.func234
theorem acB(n:Nat):aj Tryz.prog TE (Rz n):=MKS n [(7,.fz [0])] .n @Tryz.func237
theorem Pd(n:Nat):aj Tryz.prog TE (Ar n):=MKS n [(7,.fz [0])] .n @Tryz.func242
theorem Zb(n:Nat):aj Tryz.prog TE (KI n):=MKS n [(7,.fz [0])] .n @Tryz.func244
theorem SN(n:Nat):aj Tryz.prog TE (EI n):=MKS n [(7,.fz [0])] .n @Tryz.func246
theorem abL(n:Nat):aj Tryz.prog TE (N9 n):=MKS n [(7,.fz [0])] .n @Tryz.func247
theorem WI(n:Nat):aj Tryz.prog TE (Ji n):=MKS n [(7,.fz [0])] .n @Tryz.func247
theorem abE(n:Nat):aj Tryz.prog TE (OC n):=MKS n [(7,.fz [0])] .n @Tryz.func251
theorem X0(n:Nat):aj Tryz.prog TE (Jh n):=MKS n [(7,.fz [0])] .n @Tryz.func251
theorem YU(n:Nat):aj Tryz.prog TE (Ms n):=MKS n [(7,.fz [0])] .n @Tryz.func237
theorem KF(n:Nat):aj Tryz.prog TE (yN n):=MKS n [(7,.fz [0])] .n @Tryz.func242
theorem K9(n:Nat):aj Tryz.prog TE (yO n):=MKS n [(7,.fz [0])] .n @Tryz.func242
theorem Vs(n:Nat):aj Tryz.prog TE (Gh n):=MKS n [(7,.fz [0])] .n @Tryz.func244
theorem Vg(n:Nat):aj Tryz.prog TE (G9 n):=MKS n [(7,.fz [0])] .n @Tryz.func244
theorem Lj(n:Nat):aj Tryz.prog TE (yZ n):=MKS n [(7,.fz [0])] .n @Tryz.func242
theorem Lf(n:Nat):aj Tryz.prog TE (yT n):=MKS n [(7,.fz [0])] .n @Tryz.func242
theorem Ls(n:Nat):aj Tryz.prog TE (y8 n):=MKS n [(7,.fz [0])] .n @Tryz.func242
theorem LK(n:Nat):aj Tryz.prog TE (yV n):=MKS n [(7,.fz [0])] .n @Tryz.func242
theorem LQ(n:Nat):aj Tryz.prog TE (zn n):=MKS n [(7,.fz [0])] .n @Tryz.func242
theorem abD(n:Nat):aj Tryz.prog TE (Oq n):=MKS n [] (.c (wu n) (.c (abx n) (.c (yh n) (.c (acB n) (.c (Pd n) (.c (Zb n) (.c (SN n) (.c (abL n) (.c (WI n) (.c (abE n) (.c (gU n) (.c (X0 n) (.c (YU n) (.c (KF n) (.c (K9 n) (.c (Vs n) (.c (Vg n) (.c (Lj n) (.c (Lf n) (.c (Ls n) (.c (LK n) (.c (LQ n) .n)))))))))))))))))))))) @Tryz.func178
theorem Pq(n:Nat):aj Tryz.prog TE (Aq n):=mk n [(58,.lp [.r 15 .I,.o 2 (.mp .b),.o 0 .dead] 0 [.o 2 (.mp .b),.o 0 .dead])] (e:=Aq (n)) (inn:=fun y=>bif List.isEmpty y.1 then some (y.2.1,y.2.2)else none) (.c (ZM n) (.c (abD n) .n)) @Tryz.func101 (by kernel_rfl) (by intro z y h;first|(cases h;rfl)|(obtain⟨h1,h2⟩:=(aX h).resolve_right fun h=>(by cases h.2);cases h2;exact Prod.ext (qDb.1 h1).symm rfl)|(obtain⟨h1,h2⟩:=(aX h).resolve_right fun h=>(by cases h.2);cases h2;obtain⟨z1,z2⟩:=z;cases z2;rfl;cases h1)|(simp only[cond]at h;split at h<;>cases h;simp_all)) fun _=>by kernel_rfl
theorem XF(n:Nat):aj Tryz.prog TE (JZ n):=MKS n [(3,.jn [.r 2 .B] false)] .n @Tryz.func180
theorem dh(n:Nat):aj Tryz.prog TE (DR n):=MKS n [] .n @Tryz.func181
theorem K7(n:Nat):aj Tryz.prog TE (yM n):=MKS n [(12,.lp [.r 0 .Fd] 0 [])] .n @Tryz.func182
theorem Gm(n:Nat):aj Tryz.prog TE (vD n):=MKS n [(3,.jn [.r 3 .B] false)] .n @Tryz.func265
theorem BL(n:Nat):aj Tryz.prog TE (qC n):=MKS n [(26,.lp [.r 8 .I] 0 [])] (.c (Gm n) .n) @Tryz.func169
theorem zw(n:Nat):aj Tryz.prog TE (nN n):=MKS n [] (.c (BL n) .n) @Tryz.func94
theorem J9(n:Nat):aj Tryz.prog TE (xQ n):=MKS n [] (.c (EN n) (.c (zw n) .n)) @Tryz.func183
theorem Vk(n:Nat):aj Tryz.prog TE (GX n):=MKS n [] (.c (nE n) .n) @Tryz.func184
theorem Pb(n:Nat):aj Tryz.prog TE (Aw n):=MKS n [] .n @Tryz.func313
theorem Tq(n:Nat):aj Tryz.prog TE (ER n):=MKS n [] .n @Tryz.func308
theorem Fh(n:Nat):aj Tryz.prog TE (uF n):=MKS n [(26,.lp [.r 8 .I] 0 [])] (.c (Tq n) .n) @Tryz.func228
theorem BG(n:Nat):aj Tryz.prog TE (qH n):=MKS n [] (.c (Fh n) .n) @Tryz.func167
theorem Yb(n:Nat):aj Tryz.prog TE (J2 n):=MKS n [] (.c (BG n) .n) @Tryz.func307
theorem IW(n:Nat):aj Tryz.prog TE (Jq n):=MKS n [] (.c (wu n) .n) @Tryz.func248
theorem Te(n:Nat):aj Tryz.prog TE (EO n):=MKS n [] (.c (IW n) .n) @Tryz.func314
theorem jT:∀n,aj Tryz.prog TE (nS n)∧aj Tryz.prog TE (Bv n)
 |0=>⟨oF (fn:=Tryz.f191) (by kernel_rfl) fun _=>rfl,oF (fn:=Tryz.f121) (by kernel_rfl) fun _=>rfl⟩
 |n+1=>⟨MKS n [(58,.lp [.r 17 .I] 0 [])] (.c (jT n).2 .n) @Tryz.func191,
  MKS n [(3,.jn [.r 4 .B] false)] (.c (jT n).1 .n) @Tryz.func121⟩
theorem jk(n:Nat):aj Tryz.prog TE (Bv n):=(jT n).2
theorem Vr(n:Nat):aj Tryz.prog TE (Hg n):=MKS n [] (.c (jk n) .n) @Tryz.func309
theorem ES(n:Nat):aj Tryz.prog TE (uq n):=MKS n [(26,.lp [.r 8 .I] 0 [])] (.c (Vr n) .n) @Tryz.func228
theorem Bq(n:Nat):aj Tryz.prog TE (qg n):=MKS n [] (.c (ES n) .n) @Tryz.func167
theorem qj(n:Nat):aj Tryz.prog TE (Me n):=MKS n [(3,.jn [.r 2 .B] false)] (.c (Bq n) .n) @Tryz.func236
theorem Yu(n:Nat):aj Tryz.prog TE (JA n):=MKS n [] (.c (wu n) (.c (qj n) .n)) @Tryz.func235
theorem WX(n:Nat):aj Tryz.prog TE (Jg n):=MKS n [(7,.jn [.r 3 .B,.o 0 (.bx [(0,.k (.n .i64 2)),(1,.k (.s ([]:Str))),(2,.k (.l .ty))])] false)] (.c (dh n) (.c (wu n) (.c (jk n) .n))) @Tryz.func250
theorem Tp(n:Nat):aj Tryz.prog TE (EL n):=MKS n [(3,.jn [.r 4 .B,.o 0 (.bx [(0,.k (.n .i64 2)),(1,.k (.s ([]:Str))),(2,.k (.l .ty))])] false)] (.c (IW n) (.c (qj n) .n)) @Tryz.func315
theorem Jv(n:Nat):aj Tryz.prog TE (Jd n):=MKS n [] .n @Tryz.func253
theorem WB(n:Nat):aj Tryz.prog TE (JB n):=MKS n [(3,.jn [.r 3 .B,.o 0 (.bx [(0,.k (.n .i64 4)),(1,.k (.s ([]:Str))),(2,.lf (.l .ty))])] false)] (.c (Jv n) .n) @Tryz.func252
theorem X3(n:Nat):aj Tryz.prog TE (JQ n):=MKS n [] (.c (gU n) (.c (qj n) .n)) @Tryz.func254
theorem I4(n:Nat):aj Tryz.prog TE (I6 n):=MKS n [] .n @Tryz.func249
theorem Tf(n:Nat):aj Tryz.prog TE (Ew n):=MKS n [(3,.jn [.r 4 .B,.o 0 (.bx [(0,.lf (.n .i64)),(1,.lf .s),(2,.lf (.l .ty))])] false)] (.c (I4 n) (.c (qj n) .n)) @Tryz.func315
theorem l6(n:Nat):aj Tryz.prog TE (EC n):=MKS n [] (.c (Jv n) (.c (gU n) .n)) @Tryz.func239
theorem VI(n:Nat):aj Tryz.prog TE (GN n):=MKS n [(30,.jn [.r 28 .B] false)] (.c (dh n) (.c (l6 n) .n)) @Tryz.func310
theorem gV(n:Nat):aj Tryz.prog TE (Lx n):=MKS n [(14,.jn [.r 17 .B] false)] (.c (dh n) .n) @Tryz.func241
theorem Xb(n:Nat):aj Tryz.prog TE (JX n):=MKS n [] (.c (qj n) .n) @Tryz.func255
theorem IQ(n:Nat):aj Tryz.prog TE (wS n):=MKS n [] (.c (gV n) (.c (Xb n) .n)) @Tryz.func311
theorem Yn(n:Nat):aj Tryz.prog TE (Jj n):=MKS n [(7,.jn [.r 7 .B,.o 2 (.bx [(0,.k (.n .i64 5)),(1,.k (.s ([]:Str))),(2,.lf (.l .ty))])] false)] (.c (gV n) (.c (l6 n) (.c (jk n) .n))) @Tryz.func256
theorem Ip(n:Nat):aj Tryz.prog TE (wG n):=MKS n [] (.c (gV n) (.c (Yn n) .n)) @Tryz.func311
theorem YG(n:Nat):aj Tryz.prog TE (J4 n):=MKS n [(15,.jn [.r 3 .B,.o 0 (.bx [(0,.lf (.n .i64)),(1,.lf .s),(2,.lf (.l .ty))])] false)] (.c (dh n) (.c (gV n) (.c (jk n) .n))) @Tryz.func240
theorem Xa(n:Nat):aj Tryz.prog TE (Jm n):=MKS n [(7,.jn [.r 7 .B,.o 2 (.bx [(0,.lf (.n .i64)),(1,.lf .s),(2,.lf (.l .ty))])] false)] (.c (dh n) (.c (jk n) .n)) @Tryz.func243
theorem Iw(n:Nat):aj Tryz.prog TE (wO n):=MKS n [] (.c (gV n) (.c (Xa n) .n)) @Tryz.func311
theorem Xe(n:Nat):aj Tryz.prog TE (JN n):=MKS n [] (.c (l6 n) (.c (gU n) .n)) @Tryz.func238
theorem VN(n:Nat):aj Tryz.prog TE (Gj n):=MKS n [(30,.jn [.r 28 .B] false)] (.c (dh n) (.c (Xe n) .n)) @Tryz.func310
theorem UQ(n:Nat):aj Tryz.prog TE (Hu n):=MKS n [] (.c (gU n) .n) @Tryz.func257
theorem Qd(n:Nat):aj Tryz.prog TE (DN n):=MKS n [] (.c (dh n) (.c (UQ n) .n)) @Tryz.func312
theorem Vn(n:Nat):aj Tryz.prog TE (Ii n):=MKS n [] (.c (yh n) .n) @Tryz.func258
theorem Rf(n:Nat):aj Tryz.prog TE (CY n):=MKS n [] (.c (dh n) (.c (Vn n) .n)) @Tryz.func312
theorem X5(n:Nat):aj Tryz.prog TE (JH n):=MKS n [] (.c (yh n) .n) @Tryz.func245
theorem Qu(n:Nat):aj Tryz.prog TE (DF n):=MKS n [] (.c (dh n) (.c (X5 n) .n)) @Tryz.func312
theorem VR(n:Nat):aj Tryz.prog TE (Gd n):=MKS n [] (.c (gU n) .n) @Tryz.func259
theorem Im(n:Nat):aj Tryz.prog TE (wN n):=MKS n [] (.c (gV n) (.c (VR n) .n)) @Tryz.func311
theorem Vd(n:Nat):aj Tryz.prog TE (F8 n):=MKS n [] (.c (gU n) .n) @Tryz.func260
theorem IB(n:Nat):aj Tryz.prog TE (wT n):=MKS n [] (.c (gV n) (.c (Vd n) .n)) @Tryz.func311
theorem UN(n:Nat):aj Tryz.prog TE (Gs n):=MKS n [] (.c (l6 n) .n) @Tryz.func261
theorem Iu(n:Nat):aj Tryz.prog TE (wL n):=MKS n [] (.c (gV n) (.c (UN n) .n)) @Tryz.func311
theorem Vx(n:Nat):aj Tryz.prog TE (Gz n):=MKS n [(7,.jn [.r 7 .B,.o 2 (.bx [(0,.k (.n .i64 5)),(1,.k (.s ([]:Str))),(2,.lf (.l .ty))])] false)] (.c (dh n) (.c (gU n) (.c (jk n) .n))) @Tryz.func262
theorem Io(n:Nat):aj Tryz.prog TE (wQ n):=MKS n [] (.c (gV n) (.c (Vx n) .n)) @Tryz.func311
theorem VO(n:Nat):aj Tryz.prog TE (Hy n):=MKS n [] (.c (jk n) .n) @Tryz.func263
theorem IC(n:Nat):aj Tryz.prog TE (wU n):=MKS n [] (.c (gV n) (.c (VO n) .n)) @Tryz.func311
theorem Tw(n:Nat):aj Tryz.prog TE (EH n):=MKS n [] (.c (I4 n) .n) @Tryz.func314
theorem U3(n:Nat):aj Tryz.prog TE (Ht n):=MKS n [(7,.jn [.r 3 .B,.o 0 (.bx [(0,.k (.n .i64 5)),(1,.k (.s ([]:Str))),(2,.lf (.l .ty))])] false)] (.c (dh n) (.c (l6 n) .n)) @Tryz.func264
theorem mh:∀n,aj Tryz.prog TE (ug n)∧aj Tryz.prog TE (pF n)
 |0=>⟨oF (fn:=Tryz.f102) (by kernel_rfl) fun _=>rfl,oF (fn:=Tryz.f179) (by kernel_rfl) fun _=>rfl⟩
 |n+1=>⟨MKS n [(31,.jn [.r 18 (.ptr 8 0),.r 19 .B,.w (.box [.I,.S,.Lty])] false),(58,.lp [.r 2 .Fd,.w (.own .ty),.r 8 (.own 6),.r 23 .I,.o 0 (.bx [(59,.psl 7 1)]),.o 3 (.dead),.w (.arr .i)] 0 [.r 2 .Fd,.w (.own .ty),.r 8 (.own 6),.o 0 (.bx [(59,.psl 7 1)]),.o 3 (.dead),.w (.arr .i)]),(467,.jn [.r 2 .Fd,.w (.own .ty),.r 8 (.own 8),.o 0 (.bx [(59,.psl 9 1)]),.w (.arr .i),.o 6 .dead,.o 7 .dead] true),(981,.jn [.r 16 (.ptr 9 0),.r 17 .B,.w (.box [.I,.S,.Lty])] false),(29903,.jn [.r 48 .B] false),(478459,.fa [13])] (.c (mh n).2 (.c (XF n) (.c (dh n) (.c (K7 n) (.c (J9 n) (.c (gU n) (.c (Vk n) (.c (Pb n) (.c (Yb n) (.c (Te n) (.c (Yu n) (.c (WX n) (.c (Tp n) (.c (WB n) (.c (X3 n) (.c (Tf n) (.c (VI n) (.c (IQ n) (.c (Ip n) (.c (YG n) (.c (Iw n) (.c (VN n) (.c (Qd n) (.c (Rf n) (.c (Qu n) (.c (Im n) (.c (IB n) (.c (Iu n) (.c (Io n) (.c (IC n) (.c (Tw n) (.c (U3 n) .n)))))))))))))))))))))))))))))))) @Tryz.func102,
  MKS n [(15,.jn [.o 0 (.bx [(59,.psl 8 1)]),.o 8 (.arr .i)] false),(122,.ca 8 0 59)] (.c (mh n).1 .n) @Tryz.func179⟩
theorem O6(n:Nat):aj Tryz.prog TE (ug n):=(mh n).1
theorem EJ:∀n,aj Tryz.prog TE (Em n)
 |0=>oF (fn:=Tryz.f104) (by kernel_rfl) fun _=>rfl
 |n+1=>MKS n [(58,.lp [.r 14 .I,.o 2 (.bx [(2,.own 3)]),.w (.own .ty),.o 0 .dead] 0 [.o 2 (.bx [(2,.own 3)]),.w (.own .ty),.o 0 .dead])] (.c (EJ n) .n) @Tryz.func104
theorem Xi(n:Nat):aj Tryz.prog TE (J6 n):=MKS n [(6,.jn [.r 15 .B] false),(500,.fz [7])] (.c (Et n) (.c (F9 n) (.c (Pq n) (.c (O6 n) (.c (RH n) (.c (EJ n) .n)))))) @Tryz.func55
theorem Rp(n:Nat):aj Tryz.prog TE (Dp n):=MKS n [(14,.jn [.r 21 .B] false)] (.c (Xi n) .n) @Tryz.func21
theorem Bh(n:Nat):aj Tryz.prog TE (K6 n):=MKS n [(28,.jn [.r 9 .B] false),(122,.lp [.r 25 .I] 1 [])] (.c (EF n) (.c (Et n) (.c (Eh n) (.c (Rp n) .n)))) @Tryz.func7
theorem afF(n:Nat):aj Tryz.prog TE (Uc n):=MKS n [(3,.jn [.r 2 .B] false)] .n @Tryz.func105
theorem agy(n:Nat):aj Tryz.prog TE (agh n):=MKS n [(26,.lp [.r 5 .I] 0 [])] .n @Tryz.func62
theorem adM(n:Nat):aj Tryz.prog TE (QH n):=MKS n [] (.c (agy n) .n) @Tryz.func106
theorem aik(n:Nat):aj Tryz.prog TE (WA n):=MKS n [(3,.jn [.r 2 .B] false)] .n @Tryz.func107
theorem oI(n:Nat):aj Tryz.prog TE (Jc n):=MKS n [(6,.jn [.r 21 .B] false),(58,.lp [.r 3 .I] 0 []),(932,.jn [.r 45 .B] false)] (.c (afF n) (.c (adM n) (.c (aik n) .n))) @Tryz.func56
theorem ae5(n:Nat):aj Tryz.prog TE (Ua n):=MKS n [(3,.jn [.r 2 .B] false)] (.c (oI n) .n) @Tryz.func108
theorem Wq(n:Nat):aj Tryz.prog TE (X6 n):=MKS n [(3,.jn [.r 2 .B] false)] (.c (oI n) (.c (ae5 n) .n)) @Tryz.func57
theorem XE:∀n,aj Tryz.prog TE (Yp n)
 |0=>oF (fn:=Tryz.f109) (by kernel_rfl) fun _=>rfl
 |n+1=>MKS n [(14,.jn [.r 25 .B] false),(31,.jn [.r 7 .I] true),(126,.jn [.r 61 .B] false),(250,.jn [.r 28 .B] false),(1018,.lp [.r 2 .I,.r 8 .I] 1 [.r 2 .I])] (.c (oI n) (.c (XE n) .n)) @Tryz.func109
theorem BR(n:Nat):aj Tryz.prog TE (L6 n):=MKS n [] (.c (XE n) .n) @Tryz.func58
theorem KS:∀n,aj Tryz.prog TE (Mh n)
 |0=>oF (fn:=Tryz.f59) (by kernel_rfl) fun _=>rfl
 |n+1=>MKS n [(58,.lp [.r 3 .I] 0 [])] (.c (KS n) .n) @Tryz.func59
theorem NT:∀n,aj Tryz.prog TE (Oj n)
 |0=>oF (fn:=Tryz.f110) (by kernel_rfl) fun _=>rfl
 |n+1=>MKS n [(122,.lp [.w (.own .s),.r 3 (.own 1),.r 4 .I] 0 [.w (.own .s),.r 3 (.own 1)])] (.c (NT n) .n) @Tryz.func110
theorem yt(n:Nat):aj Tryz.prog TE (H9 n):=MKS n [(26,.lp [.r 5 .I] 0 [])] .n @Tryz.func38
theorem X9(n:Nat):aj Tryz.prog TE (Wn n):=MKS n [(58,.lp [.r 6 .I,.o 1 .dead] 0 [.o 1 .dead])] (.c (NT n) (.c (yt n) .n)) @Tryz.func60
theorem abH(n:Nat):aj Tryz.prog TE (OG n):=MKS n [(58,.lp [.w (.own .s),.r 3 (.own 1),.r 4 .I] 0 [.w (.own .s),.r 3 (.own 1)]),(122,.lp [.w (.own .s),.r 3 (.own 2),.r 5 .I,.o 1 .dead] 2 [.w (.own .s),.r 3 (.own 2),.o 1 .dead]),(250,.lp [.w (.own .s),.r 3 (.own 3),.r 6 .I,.o 2 .dead] 4 [.w (.own .s),.r 3 (.own 3),.o 2 .dead])] .n @Tryz.func61
theorem Od(n:Nat):aj Tryz.prog TE (Oc n):=MKS n [(6,.jn [.r 19 .B] false),(58,.lp [.r 3 .I] 0 []),(122,.lp [.r 6 .I] 4 []),(506,.lp [.r 9 .I,.o 0 .dead] 6 [.o 0 .dead]),(3730,.jn [.r 41 .B] false),(3913,.jn [.r 89 .B] false),(14926,.lp [.r 5 .I] 2 [])] (.c (oI n) (.c (Wq n) (.c (BR n) (.c (KS n) (.c (X9 n) (.c (abH n) (.c (agy n) .n))))))) @Tryz.func22
theorem aj4(n:Nat):aj Tryz.prog TE (aai n):=MKS n [(12,.jn [.r 3 .B] false),(51,.jn [.r 22 .B] false),(831,.jn [.r 40 .B] false)] .n @Tryz.func186
theorem Kt(n:Nat):aj Tryz.prog TE (Um n):=MKS n [(3,.jn [.r 2 .B] false)] .n @Tryz.func119
theorem abr(n:Nat):aj Tryz.prog TE (NU n):=MKS n [(3,.jn [.r 2 .B] false)] .n @Tryz.func187
theorem ajc(n:Nat):aj Tryz.prog TE (aa7 n):=MKS n [(14,.jn [.r 29 .B] false),(15,.jn [] true),(62,.jn [.r 72 .B] false),(506,.jn [.r 2 .B] false)] (.c (aj4 n) (.c (Wq n) (.c (Kt n) (.c (oI n) (.c (BR n) (.c (abr n) .n)))))) @Tryz.func111
theorem Xv:∀n,aj Tryz.prog TE (Xd n)
 |0=>oF (fn:=Tryz.f63) (by kernel_rfl) fun _=>rfl
 |n+1=>MKS n [(14,.jn [.r 20 .B] false),(122,.lp [.r 2 .I,.r 7 .I] 0 [.r 2 .I])] (.c (ajc n) (.c (Xv n) .n)) @Tryz.func63
theorem FD(n:Nat):aj Tryz.prog TE (YB n):=MKS n [] (.c (Xv n) .n) @Tryz.func24
theorem afH(n:Nat):aj Tryz.prog TE (Uz n):=MKS n [(26,.lp [.r 3 .I] 0 [])] (.c (FD n) .n) @Tryz.func23
theorem Ow(n:Nat):aj Tryz.prog TE (Ob n):=MKS n [(26,.lp [.r 5 .I] 0 [])] .n @Tryz.func40
theorem ad3(n:Nat):aj Tryz.prog TE (Ra n):=MKS n [] .n @Tryz.func267
theorem MS(n:Nat):aj Tryz.prog TE (ada n):=MKS n [] .n @Tryz.func266
theorem Vv(n:Nat):aj Tryz.prog TE (GJ n):=MKS n [(26,.lp [.r 6 .I] 0 []),(1682,.lp [.r 7 .I] 2 [])] .n @Tryz.func268
theorem aes(n:Nat):aj Tryz.prog TE (Q9 n):=MKS n [(26,.lp [.r 8 .I] 0 [])] (.c (Ow n) (.c (yt n) (.c (ad3 n) (.c (MS n) (.c (Vv n) .n))))) @Tryz.func188
theorem MZ(n:Nat):aj Tryz.prog TE (XR n):=MKS n [(3,.jn [.r 2 .B] false)] .n @Tryz.func189
theorem aed(n:Nat):aj Tryz.prog TE (adh n):=MKS n [] .n @Tryz.func13
theorem j6:∀n,aj Tryz.prog TE (Oh n)
 |0=>oF (fn:=Tryz.f41) (by kernel_rfl) fun _=>rfl
 |n+1=>MKS n [(6,.jn [.r 26 .B] false),(58,.lp [.r 5 .I] 0 [])] (.c (j6 n) .n) @Tryz.func41
theorem aeR(n:Nat):aj Tryz.prog TE (acd n):=MKS n [(26,.lp [.r 5 .I] 0 [])] (.c (j6 n) .n) @Tryz.func269
theorem aaP(n:Nat):aj Tryz.prog TE (aaI n):=MKS n [] .n @Tryz.func270
theorem ajJ(n:Nat):aj Tryz.prog TE (aaY n):=MKS n [] .n @Tryz.func316
theorem ahU(n:Nat):aj Tryz.prog TE (Yk n):=MKS n [(26,.jn [.r 7 .B] false),(107,.jn [.r 11 .B] false),(431,.jn [.r 21 .B] false),(1726,.jn [.r 5 .B,.o 0 (.bx [(0,.k (.n .i64 2)),(1,.k (.s ([]:Str))),(2,.k (.l .ty))])] false),(1727,.jn [.r 36 .B] false),(6910,.jn [.r 5 .B,.o 0 (.bx [(0,.k (.n .i64 2)),(1,.k (.s ([]:Str))),(2,.k (.l .ty))])] false),(6911,.jn [.r 54 .B] false),(27647,.jn [.r 63 .B] false),(110590,.jn [.r 5 .B,.o 0 (.bx [(0,.k (.n .i64 2)),(1,.k (.s ([]:Str))),(2,.k (.l .ty))])] false),(442366,.jn [.r 5 .B,.o 0 (.bx [(0,.k (.n .i64 2)),(1,.k (.s ([]:Str))),(2,.k (.l .ty))])] false)] (.c (ajJ n) (.c (aeR n) (.c (MZ n) (.c (j6 n) (.c (aed n) (.c (MS n) .n)))))) @Tryz.func271
theorem ahr(n:Nat):aj Tryz.prog TE (YA n):=MKS n [(3,.jn [.r 2 .B] false)] .n @Tryz.func317
theorem afA(n:Nat):aj Tryz.prog TE (Ul n):=MKS n [] .n @Tryz.func318
theorem ag7(n:Nat):aj Tryz.prog TE (Yh n):=MKS n [] .n @Tryz.func319
theorem abA(n:Nat):aj Tryz.prog TE (NZ n):=MKS n [(15,.jn [.o 2 (.bx [(0,.lf (.n .i64)),(1,.lf .s),(2,.lf (.l .ty))])] false),(30,.jn [.r 16 .B] false),(8111,.jn [.r 59 .B] false),(16220,.jn [.r 49 .B] false),(32447,.jn [.r 70 .B] false)] (.c (ahr n) (.c (j6 n) (.c (afA n) (.c (ag7 n) (.c (aaP n) (.c (MS n) .n)))))) @Tryz.func272
theorem alf(n:Nat):aj Tryz.prog TE (ady n):=MKS n [(107,.jn [.r 12 .B] false),(1726,.jn [.r 5 .B,.o 1 (.bx [(0,.k (.n .i64 4)),(1,.k (.s ([]:Str))),(2,.lf (.l .ty))])] false),(6910,.jn [.r 5 .B,.o 1 (.bx [(0,.k (.n .i64 5)),(1,.k (.s ([]:Str))),(2,.lf (.l .ty))])] false),(442366,.jn [.r 5 .B,.o 1 (.bx [(0,.lf (.n .i64)),(1,.lf .s),(2,.lf (.l .ty))])] false),(3538940,.jn [.r 103 .B] false),(7077887,.jn [.r 123 .B] false),(113246207,.jn [.r 143 .B] false),(452984830,.jn [.r 5 .B,.o 1 (.bx [(0,.lf (.n .i64)),(1,.lf .s),(2,.lf (.l .ty))])] false),(452984831,.jn [.r 163 .B] false),(3623878652,.jn [.r 181 .B] false),(7247757307,.jn [.o 2 (.bx [(0,.k (.n .i64 5)),(1,.k (.s ([]:Str))),(2,.lf (.l .ty))])] false)] (.c (aed n) (.c (aeR n) (.c (aaP n) (.c (MS n) (.c (MZ n) (.c (j6 n) (.c (ahU n) (.c (abA n) .n)))))))) @Tryz.func190
theorem Uu:∀n,aj Tryz.prog TE (Uo n)
 |0=>oF (fn:=Tryz.f112) (by kernel_rfl) fun _=>rfl
 |n+1=>MKS n [(30,.jn [.r 44 .B] false),(506,.lp [.w (.own .ty),.r 12 (.own 4),.r 13 .I] 0 [.w (.own .ty),.r 12 (.own 4)]),(16201,.jn [.r 14 .Ldec] true),(32402,.jn [.r 60 .B] false)] (.c (aes n) (.c (X9 n) (.c (Kt n) (.c (Uu n) (.c (MZ n) (.c (alf n) (.c (BR n) .n))))))) @Tryz.func112
theorem Ou:∀n,aj Tryz.prog TE (OD n)
 |0=>oF (fn:=Tryz.f113) (by kernel_rfl) fun _=>rfl
 |n+1=>MKS n [(58,.lp [.r 4 .I,.o 2 (.bx [(2,.own 3)]),.w (.own .ty)] 0 [.o 2 (.bx [(2,.own 3)]),.w (.own .ty)])] (.c (Ou n) .n) @Tryz.func113
theorem afD(n:Nat):aj Tryz.prog TE (Ut n):=MKS n [(6,.jn [.r 17 .B] false)] (.c (Od n) (.c (FD n) (.c (Uu n) (.c (Ou n) .n)))) @Tryz.func64
theorem Z5(n:Nat):aj Tryz.prog TE (LA n):=MKS n [(14,.jn [.r 21 .B] false)] (.c (afD n) .n) @Tryz.func25
theorem FQ(n:Nat):aj Tryz.prog TE (WJ n):=MKS n [(6,.jn [.r 20 .B] false),(122,.lp [.r 3 .I] 0 [])] (.c (Od n) (.c (afH n) (.c (FD n) (.c (Z5 n) .n)))) @Tryz.func8
theorem Mk(n:Nat):aj Tryz.prog TE (za n):=MKS n [(58,.lp [.r 13 .I] 0 [])] .n @Tryz.func71
theorem zS(n:Nat):aj Tryz.prog TE (zB n):=MKS n [(3,.jn [.r 4 .B] false)] (.c (Mk n) .n) @Tryz.func33
theorem Ef(n:Nat):aj Tryz.prog TE (rV n):=MKS n [(58,.lp [.r 17 .I] 0 [])] (.c (zS n) .n) @Tryz.func65
theorem S9(n:Nat):aj Tryz.prog TE (En n):=MKS n [(3,.jn [.r 4 .B] false)] (.c (nE n) (.c (jk n) .n)) @Tryz.func73
theorem Ey(n:Nat):aj Tryz.prog TE (ED n):=MKS n [(3,.jn [.r 4 .B] false)] (.c (S9 n) .n) @Tryz.func36
theorem IE(n:Nat):aj Tryz.prog TE (wI n):=MKS n [(58,.lp [.r 17 .I] 0 [])] (.c (Ey n) .n) @Tryz.func66
theorem V7(n:Nat):aj Tryz.prog TE (Gt n):=MKS n [(3,.jn [.r 4 .B] false)] (.c (Ef n) (.c (IE n) .n)) @Tryz.func26
theorem YN(n:Nat):aj Tryz.prog TE (Ld n):=MKS n [] (.c (F9 n) .n) @Tryz.func114
theorem Fg(n:Nat):aj Tryz.prog TE (uM n):=MKS n [(26,.lp [.r 8 .I] 0 [])] (.c (YN n) .n) @Tryz.func53
theorem BH(n:Nat):aj Tryz.prog TE (qF n):=MKS n [] (.c (Fg n) .n) @Tryz.func18
theorem aeQ(n:Nat):aj Tryz.prog TE (Rl n):=MKS n [] (.c (BH n) .n) @Tryz.func67
theorem rF:∀n,aj Tryz.prog TE (Ae n)∧aj Tryz.prog TE (mG n)
 |0=>⟨oF (fn:=Tryz.f115) (by kernel_rfl) fun _=>rfl,oF (fn:=Tryz.f191) (by kernel_rfl) fun _=>rfl⟩
 |n+1=>⟨MKS n [(3,.jn [.r 4 .B] false)] (.c (rF n).2 .n) @Tryz.func115,
  MKS n [(58,.lp [.r 17 .I] 0 [])] (.c (rF n).1 .n) @Tryz.func191⟩
theorem XH(n:Nat):aj Tryz.prog TE (Ae n):=(rF n).1
theorem Dr:∀n,aj Tryz.prog TE (DT n)
 |0=>oF (fn:=Tryz.f68) (by kernel_rfl) fun _=>rfl
 |n+1=>MKS n [(6,.jn [.r 39 .B] false),(117,.jn [.r 6 .B] false),(122,.lp [.r 70 .I] 0 []),(15667,.jn [.o 3 (.bx [(0,.lf (.l .s)),(1,.lf (.l .s))])] false),(31334,.jn [.r 80 .B] false)] (.c (XH n) (.c (Ui n) (.c (N8 n) (.c (Dr n) (.c (IL n) .n))))) @Tryz.func68
theorem GZ(n:Nat):aj Tryz.prog TE (Q0 n):=MKS n [(3,.jn [.r 4 .B] false)] (.c (aeQ n) (.c (Dr n) .n)) @Tryz.func28
theorem Il(n:Nat):aj Tryz.prog TE (wP n):=MKS n [(58,.lp [.r 17 .I] 0 [])] (.c (GZ n) .n) @Tryz.func27
theorem Om(n:Nat):aj Tryz.prog TE (Og n):=MKS n [(3,.jn [.r 4 .B] false)] (.c (Bh n) (.c (V7 n) (.c (EF n) (.c (Il n) .n)))) @Tryz.func9
theorem SX(n:Nat):aj Tryz.prog TE (Ej n):=MKS n [] (.c (zS n) .n) @Tryz.func32
theorem Ak(n:Nat):aj Tryz.prog TE (pQ n):=MKS n [(26,.lp [.r 8 .I] 0 [])] (.c (SX n) .n) @Tryz.func70
theorem zq(n:Nat):aj Tryz.prog TE (nO n):=MKS n [] (.c (Ak n) .n) @Tryz.func31
theorem Tn(n:Nat):aj Tryz.prog TE (EP n):=MKS n [] (.c (Ey n) .n) @Tryz.func35
theorem IJ(n:Nat):aj Tryz.prog TE (wK n):=MKS n [(26,.lp [.r 8 .I] 0 [])] (.c (Tn n) .n) @Tryz.func72
theorem D6(n:Nat):aj Tryz.prog TE (rT n):=MKS n [] (.c (IJ n) .n) @Tryz.func34
theorem Pn(n:Nat):aj Tryz.prog TE (Az n):=MKS n [] (.c (GZ n) .n) @Tryz.func74
theorem EZ(n:Nat):aj Tryz.prog TE (uK n):=MKS n [(26,.lp [.r 8 .I] 0 [])] (.c (Pn n) .n) @Tryz.func53
theorem BP(n:Nat):aj Tryz.prog TE (qz n):=MKS n [] (.c (EZ n) .n) @Tryz.func18
theorem Tk(n:Nat):aj Tryz.prog TE (EK n):=MKS n [] (.c (BP n) .n) @Tryz.func37
theorem JF(n:Nat):aj Tryz.prog TE (Jz n):=MKS n [(6,.jn [.r 26 .B] false),(58,.lp [.r 31 .I] 0 []),(122,.lp [.r 46 .I] 2 []),(250,.lp [.r 60 .I,.o 0 .dead] 4 [.o 0 .dead])] (.c (Bh n) (.c (GZ n) (.c (zq n) (.c (D6 n) (.c (Tk n) .n))))) @Tryz.func11
theorem Ta(n:Nat):aj Tryz.prog TE (Eo n):=MKS n [(6,.jn [.r 23 .B] false),(62,.jn [.r 57 .B] false),(63,.jn [.r 6 .B] false)] (.c (Xq n) (.c (YD n) (.c (JF n) (.c (Om n) (.c (FQ n) .n))))) @Tryz.func4
end
section
open Go
theorem Tm.ind{P:Tm→Prop}(h:∀k n m t ks,(∀t∈ks,P t)→P (.mk k n m t ks))(t:Tm):P t:=by
 match t with
 | .mk k n m ty ks=>exact h k n m ty ks fun u _=>Tm.ind h u
decreasing_by
 rename_i hu;have:=qDq hu
 grind
def gI(op:Int):Int:=
 cond ((op==1 ||(op==2 ||(op==19 ||(op==20 ||op==29))))) 0
  (cond ((op==3 ||(op==21 ||(decide (46≤op)&&decide (op≤52))))) 1 (cond (op==28) (-1) (cond (decide (4≤op)&&decide (op≤56)) 2 (-2))))
def bf(op:Int):Bool:=op==8 ||(op==9 ||(op==55 ||op==56))
theorem orS(a b:Bool):(cond a (some a) (some b))=some (a ||b):=by cases a<;>rfl
theorem atV(a b:Bool):(cond a (some b) (some false))=some (a&&b):=by cases a<;>rfl
theorem ahQ(n:Nat)(op:Int):Sn n op=some (gI op):=by
 unfold Sn gI
 grind
theorem aue(op:Int):((decide (46≤op)&&decide (op≤51)) ||op==52)=(decide (46≤op)&&decide (op≤52)):=by grind
theorem adf(n:Nat)(op:Int):IV n op=some (cond (gI op== -2) (0,false) (gI op,true)):=by
 unfold IV gI;simp only[orS,atV,qAb,aue];cases h1:(op==1 ||(op==2 ||(op==19 ||(op==20 ||op==29))))with
 |true=>rfl
 |false=>
  cases h2:(op==3 ||(op==21 ||(decide (46≤op)&&decide (op≤52))))with
  |true=>rfl
  |false=>
   cases(op==28)with
   |true=>rfl
   |false=>
    simp only[qCo,beq_eq_false_iff_ne]at h1 h2;have e:(decide (1≤op)&&decide (op≤56))=(decide (4≤op)&&decide (op≤56)):=by
     by_cases h:4≤op
     ·simp[h,show 1≤op by omega]
     ·simp[h,show ¬1≤op by omega]
    rw[e];cases(decide (4≤op)&&decide (op≤56))<;>rfl
theorem aal(n:Nat)(op:Int):pz n op=some (bf op):=by
 unfold pz bf
 grind
theorem RP(n:Nat)(op:Int):nZ n op=some (bf op):=by
 unfold nZ bf
 grind
def LW(t:Ty):Bool:=t.kind==0&&(t.name==[]&&(t.kids.length:Int)==0)
theorem afx(n:Nat)(t:Ty):xW n t=some (LW t):=by
 unfold xW LW
 grind
theorem Y3(n:Nat)(t:Ty):Cr n t=some (LW t):=by
 unfold Cr LW
 grind
def BZ(t:Tm):Bool:=cond (t.op==20) (named t.name) (cond (bf t.op) (ident t.name) (t.name==[]))
def NG(t:Tm):Bool:=cond (t.op==19) (decide (0≤t.n)&&decide (t.n≤1000000000)) (t.n==0)
def tyB(t:Tm):Bool:=cond (t.op==29) (dL t.ty&&t.ty.kind !=2) (LW t.ty)
def Cg(t:Tm):Bool:=!(gI t.op== -2)&&cond (gI t.op== -1) (!((t.kids.length:Int)==0)) ((t.kids.length:Int)==gI t.op)
def uD(t:Tm):Bool:=Cg t&&(BZ t&&(NG t&&tyB t))
theorem ajF(t:Tm)(hs:t.name.length≤9223372036854775807):Ev (fun n=>Cj n t) (uD t):=by
 unfold Cj uD;simp only[adf,qAb];have hfirst:Ev (fun n=>((((cond (!(cond (gI t.op== -2) ((0:Int),false) (gI t.op,true)).2) (some (!(cond (gI t.op== -2) ((0:Int),false) (gI t.op,true)).2)) (((cond ((cond (gI t.op== -2) ((0:Int),false) (gI t.op,true)).1==(-1)) (some ((t.kids.length:Int)==0)) (some false)):Option Bool).bind fun(s6:Bool)=>(cond s6 (some s6) (cond ((cond (gI t.op== -2) ((0:Int),false) (gI t.op,true)).1 !=(-1)) (some ((t.kids.length:Int)!=(cond (gI t.op== -2) ((0:Int),false) (gI t.op,true)).1)) (some false))))):Option Bool)).bind fun(s5:Bool)=>(cond s5 (some (.rt false)) (cond (t.op==20) ((MN n t.name).bind fun(x4:Bool)=>some (.nx x4)) ((pz n t.op).bind fun(x5:Bool)=>(cond x5 ((dO n t.name).bind fun(x6:Bool)=>some (.nx x6)) (some (.nx (t.name==([]:Str)))))))):Option (LR Bool Bool))) (cond (Cg t) (.nx (BZ t)) (.rt false)):=by
  refine Ev.bind (a:=!(Cg t)) ?_ ?_
  ·refine Ev.of fun n=>?_;unfold Cg
   grind
  ·cases Cg t with
   |false=>exact Ev.ret _
   |true=>
    simp only[qAt,cond_false,cond_true,BZ,aal,qAb];cases t.op==20 with
    |true=>
     refine Ev.bind (a:=named t.name) ?_ (Ev.ret _);exact TM t.name hs
    |false=>
     cases bf t.op with
     |true=>exact Ev.bind (lg _) (Ev.ret _)
     |false=>exact Ev.ret _
 refine Ev.bind hfirst ?_;cases Cg t with
 |false=>exact Ev.ret _
 |true=>
  simp only[cond_true,qAy];refine Ev.bind (a:=BZ t&&NG t) ?_ ?_
  ·unfold NG;refine Ev.of fun n=>?_
   grind
  ·unfold tyB;cases t.op==29 with
   |true=>
    simp only[cond_true];refine Ev.bind (a:=BZ t&&(NG t&&(dL t.ty&&t.ty.kind !=2))) ?_ (Ev.ret _);cases BZ t with
    |false=>exact Ev.ret _
    |true=>
     cases NG t with
     |false=>exact Ev.ret _
     |true=>
      simp only[qAy,cond_true];cases hk:t.ty.kind !=2 with
      |false=>simp only[cond_false,qBD];exact Ev.ret _
      |true=>simp only[cond_true,qBq];exact Ev.bind (j3 _) (Ev.ret _)
   |false=>
    simp only[cond_false,afx,qAb];refine Ev.of fun n=>?_;cases BZ t<;>cases NG t<;>rfl
theorem aij(t:Tm):Ev (fun n=>R6 n t) (uD t):=by
 unfold R6 uD;simp only[ahQ,qAb];refine Ev.bind (a:=!(Cg t)) ?_ ?_
 ·refine Ev.of fun n=>?_;unfold Cg;cases h2:gI t.op== -2 with
  |true=>rfl
  |false=>
   simp only[cond_false,qAt,qBc,qAy];cases h1:gI t.op== -1 with
   |true=>
    grind
   |false=>
    have hge:decide (0≤gI t.op)=true:=by
     unfold gI at h1 h2⊢
     grind
    grind
 ·cases Cg t with
  |false=>exact Ev.ret _
  |true=>
   simp only[qAt,cond_false,qAy];refine Ev.bind (a:=cond (BZ t) (.nx ()) (.rt false)) ?_ ?_
   ·unfold BZ;simp only[RP,qAb];cases t.op==20 with
    |true=>
     refine Ev.bind (TH _) ?_;simp only[cond_true];cases named t.name
     ·exact Ev.ret _
     ·exact Ev.ret _
    |false=>
     simp only[cond_false];cases bf t.op with
     |true=>
      refine Ev.bind (kL _) ?_;simp only[cond_true];cases ident t.name
      ·exact Ev.ret _
      ·exact Ev.ret _
     |false=>
      simp only[cond_false];cases t.name==([]:Str)
      ·exact Ev.ret _
      ·exact Ev.ret _
   ·cases BZ t with
    |false=>exact Ev.ret _
    |true=>
     simp only[cond_true,qAy];refine Ev.bind (a:=!(NG t)) ?_ ?_
     ·refine Ev.of fun n=>?_;unfold NG;cases h19:t.op==19 with
      |true=>
       simp only[cond_true,bne,h19,qAt,cond_false];by_cases h0:t.n<0
       ·rw[decide_eq_true h0,decide_eq_false (show ¬0≤t.n by omega)];rfl
       ·rw[decide_eq_false h0,decide_eq_true (show 0≤t.n by omega)];by_cases hb:1000000000<t.n
        ·rw[decide_eq_true hb,decide_eq_false (show ¬t.n≤1000000000 by omega)];rfl
        ·rw[decide_eq_false hb,decide_eq_true (show t.n≤1000000000 by omega)];rfl
      |false=>simp only[cond_false,bne,h19,qBc,cond_true]
     ·cases NG t with
      |false=>exact Ev.ret _
      |true=>
       simp only[qAt,cond_false,qAy];unfold tyB;cases t.op==29 with
       |true=>
        simp only[cond_true];refine Ev.bind (a:=dL t.ty&&t.ty.kind !=2) (Ev.bind (zP _) ?_) (Ev.ret _);cases dL t.ty
        ·exact Ev.ret _
        ·exact Ev.ret _
       |false=>
        simp only[cond_false,Y3,qAb];exact Ev.ret _
mutual
def mf:Tm→Int→Int→Bool×Int
 | .mk op nm m ty ks,d,c=>cond ((decide (c+1≤2000)&&decide (d≤64))&&uD (.mk op nm m ty ks)) (um ks (d+1) (c+1)) (false,c+1)
def um:List Tm→Int→Int→Bool×Int
 |[],_,c=>(true,c)
 |t::ts,d,c=>cond (mf t d c).1 (um ts d (mf t d c).2) (false,(mf t d c).2)
end
mutual
theorem R7:∀(t:Tm) (d c:Int),(mf t d c).1=true→c<(mf t d c).2∧(mf t d c).2≤2000
 | .mk op nm m ty ks,d,c,h=>by
  simp only[mf]at h⊢;cases hb:((decide (c+1≤2000)&&decide (d≤64))&&uD (.mk op nm m ty ks))with
  |false=>rw[hb]at h;cases h
  |true=>
   rw[hb]at h;simp only[cond_true]at h⊢;simp only[qAa,decide_eq_true_eq]at hb;have:=acL ks (d+1) (c+1) h;omega
theorem acL:∀(ts:List Tm) (d c:Int),(um ts d c).1=true→c≤(um ts d c).2∧(c≤2000→(um ts d c).2≤2000)
 |[],_,c,_=>by simp[um]
 |t::ts,d,c,h=>by
  simp only[um]at h⊢;cases hb:(mf t d c).1 with
  |false=>rw[hb]at h;cases h
  |true=>
   rw[hb]at h;simp only[cond_true]at h⊢;have h1:=R7 t d c hb;have h2:=acL ts d _ h;exact⟨by omega,fun _=>h2.2 h1.2⟩
end
mutual
def zk:Tm→Prop
 | .mk _ nm _ _ ks=>nm.length≤9223372036854775807∧Vq ks
def Vq:List Tm→Prop
 |[]=>True
 |t::ts=>zk t∧Vq ts
end
theorem aei:∀{ts:List Tm},Vq ts→∀t∈ts,zk t
 |[],_,t,h=>by cases h
 |u::ts,h,t,ht=>by
  simp only[Vq]at h;rcases qAh.1 ht with rfl|ht
  ·exact h.1
  ·exact aei h.2 t ht
theorem ajB(n:Nat)(c d:Int)(h0:0≤c)(h1:c≤2000):iI n c 2000 64 d=some (decide (c+1≤2000)&&decide (d≤64),c+1):=by
 unfold iI;rw[wrap64 (by omega) (by omega)]
 grind
def ao8(t:Tm):Prop:=zk t→∀d c:Int,1≤d→d≤65→0≤c→c≤2000→Ev (fun n=>gX n c 2000 64 t d) (mf t d c)
theorem agN(d:Int):∀(ts:List Tm) (i c:Int),0≤i→(∃j,0≤j∧(um ts d c).1=false∧gL (τ:=Int) (fun i x s=>cond (!(mf x d s).1) (.rt (i,(mf x d s).2)) (.nx (mf x d s).2)) (fun s=>s) i ts c=.rt (j,(um ts d c).2))∨((um ts d c).1=true∧gL (ρ:=Int×Int) (fun i x s=>cond (!(mf x d s).1) (.rt (i,(mf x d s).2)) (.nx (mf x d s).2)) (fun s=>s) i ts c=.nx (um ts d c).2)
 |[],i,c,_=>.inr ⟨rfl,rfl⟩
 |t::ts,i,c,hi=>by
  simp only[um,gL];cases hb:(mf t d c).1 with
  |false=>exact .inl ⟨i,hi,rfl,rfl⟩
  |true=>exact agN d ts (i+1) _ (by omega)
theorem ahj(ts:List Tm)(h:∀t∈ts,ao8 t)(hS:Vq ts)(d c:Int)(hd:1≤d)(hd6:d≤64)(h0:0≤c)(h1:c≤2000):Ev (fun n=>dQ n ts c 2000 64 d) (!(um ts (d+1) c).1,(um ts (d+1) c).2):=by
 refine Ev.succ ?_;show Ev (fun n=>nM n _ _ _ _ ts c 2000 64 d) _;have hloop:=BJ ts (fun n k i s=>sO n (gB n) (dQ n) (gX n) (eF n) ts 2000 64 d k (i,s))
  (fun n i x s=>(eF n x s 2000 64 d).bind fun x2=>cond x2.1 (some (.rt (i,x2.2))) (some (.nx x2.2))) (fun i x s=>cond (!(mf x (d+1) s).1) (.rt (i,(mf x (d+1) s).2)) (.nx (mf x (d+1) s).2)) (fun s=>s) (fun _ _ s=>0≤s∧s≤2000)
  (fun n k i s=>by
   show cond _ _ _=_;congr 1;congr 1;funext x;dsimp only;cases eF n x s 2000 64 d with
   |none=>rfl
   |some b=>obtain⟨b,e⟩:=b;cases b<;>rfl)
  (fun i x suf s hx hs=>⟨by
   have hfit:Ev (fun n=>eF n x s 2000 64 d) (!(mf x (d+1) s).1,(mf x (d+1) s).2):=by
    refine Ev.succ ?_;show Ev (fun n=>mZ n _ _ _ _ x s 2000 64 d) _;unfold mZ;have:=h x hx (aei hS x hx) (d+1) s (by omega) (by omega) hs.1 hs.2;rw[wrap64 (by omega) (by omega)];exact Ev.bind this (Ev.ret _)
   refine Ev.bind hfit ?_;cases(mf x (d+1) s).1
   ·exact Ev.ret _
   ·exact Ev.ret _,fun s' he=>by
    cases hb:(mf x (d+1) s).1 with
    |false=>rw[hb]at he;cases he
    |true=>
     rw[hb]at he;simp at he;have:=R7 x (d+1) s hb;omega⟩) (s0:=c) ⟨h0,h1⟩
 rcases agN (d+1) ts 0 c (qBB _)with⟨j,hj,hf,hr⟩|⟨ht,hr⟩
 ·rw[hr]at hloop;refine Ev.bind (a:=(j,(um ts (d+1) c).2)) (Ev.succ ?_) ?_
  ·show Ev (fun n=>fP n _ _ _ _ ts c 2000 64 d) _;unfold fP;exact Ev.bind hloop (Ev.ret _)
  ·rw[hf];simp only[decide_eq_true hj];exact Ev.ret _
 ·rw[hr]at hloop;refine Ev.bind (a:=(-1,(um ts (d+1) c).2)) (Ev.succ ?_) ?_
  ·show Ev (fun n=>fP n _ _ _ _ ts c 2000 64 d) _;unfold fP;exact Ev.bind hloop (Ev.ret _)
  ·rw[ht];exact Ev.ret _
theorem arq:∀t:Tm,ao8 t:=Tm.ind fun op nm m ty ks ih hS d c hd hd7 h0 h1=>by
 refine Ev.succ ?_;show Ev (fun n=>pG n _ _ _ _ c 2000 64 (.mk op nm m ty ks) d) _;unfold pG;simp only[ajB _ c d h0 h1,qAb,mf];cases hb:(decide (c+1≤2000)&&decide (d≤64))with
 |false=>exact Ev.ret _
 |true=>
  simp at hb;refine Ev.bind (a:=(!(uD (.mk op nm m ty ks)),c+1)) (Ev.bind (ajF (.mk op nm m ty ks) hS.1) (Ev.ret _)) ?_;cases uD (.mk op nm m ty ks)with
  |false=>exact Ev.ret _
  |true=>
   refine Ev.bind (ahj ks ih hS.2 d (c+1) hd hb.2 (by omega) hb.1) ?_;simp only[qCt];exact Ev.ret _
def cu(t:Tm):Bool:=(mf t 1 0).1
theorem DY(t:Tm)(hS:zk t):Ev (fun n=>Ah n t) (cu t):=by
 exact Ev.bind (arq t hS 1 0 (by omega) (by omega) (by omega) (by omega)) (Ev.ret _)
def mt(t:Tm)(d c:Int):Int:=cond (mf t d c).1 (mf t d c).2 (-1)
def aoU(t:Tm):Prop:=∀d c:Int,1≤d→d≤65→0≤c→c≤2000→Ev (fun n=>yx n t d c) (mt t d c)
theorem agf(d:Int):∀(ts:List Tm) (c:Int),0≤c→ji (τ:=Int) (fun x s=>cond (decide (mt x d s<0)) (.rt (-1)) (.nx (mt x d s))) (fun s=>s) ts c=cond (um ts d c).1 (.nx (um ts d c).2) (.rt (-1))
 |[],c,_=>rfl
 |t::ts,c,h0=>by
  simp only[um,ji];by_cases hb:(mf t d c).1=true
  ·have h1:=R7 t d c hb;have h2:mt t d c=(mf t d c).2:=by simp only[mt,hb,cond_true]
   have h3:decide ((mf t d c).2<0)=false:=decide_eq_false (by omega);simp only[h2,h3,hb,cond_true,cond_false];exact agf d ts (mf t d c).2 (by omega)
  ·have hb':(mf t d c).1=false:=by simpa using hb
   have h2:mt t d c= -1:=by simp only[mt,hb',cond_false]
   have h3:decide (mt t d c<0)=true:=decide_eq_true (by omega);simp only[h3,hb',cond_true,cond_false]
theorem nodes:∀t:Tm,aoU t:=Tm.ind fun op nm m ty ks ih d c hd hd7 h0 h1=>by
 refine Ev.succ ?_;show Ev (fun n=>Ei n _ (.mk op nm m ty ks) d c) _;unfold Ei;simp only[mt,mf];rw[wrap64 (by omega) (by omega)];by_cases hd6:d≤64
 case neg=>
  rw[decide_eq_true (show 64<d by omega),decide_eq_false hd6];simp only[qBD,qBh,cond_false];exact Ev.ret _
 by_cases hc:c+1≤2000
 case neg=>
  rw[decide_eq_false (show ¬64<d by omega),decide_eq_true (show 2000<c+1 by omega),decide_eq_false hc];simp only[qBh,cond_false,cond_true];exact Ev.ret _
 rw[decide_eq_false (show ¬64<d by omega),decide_eq_false (show ¬2000<c+1 by omega),decide_eq_true hd6,decide_eq_true hc];simp only[cond_false,qAy];refine Ev.bind (a:=!(uD (.mk op nm m ty ks))) (Ev.bind (aij _) (Ev.ret _)) ?_;cases uD (.mk op nm m ty ks)with
 |false=>exact Ev.ret _
 |true=>
  simp only[qAt,cond_false,cond_true];have hloop:=LC ks (fun n k' i s=>TL n (yx n) (.mk op nm m ty ks) d k' (s,i)) (fun n x s=>(yx n x (IntKind.wrap .i64 (d+1)) s).bind fun x2=>cond (decide (x2<0)) (some (.rt (-1))) (some (.nx x2)))
   (fun x s=>cond (decide (mt x (d+1) s<0)) (.rt (-1)) (.nx (mt x (d+1) s))) (fun s=>s) (fun _ s=>0≤s∧s≤2000)
   (fun n k' i s=>by
    show cond _ _ _=_;congr 1;show(idx ks i).bind _=_;congr 1;funext x;dsimp only;cases yx n x (IntKind.wrap .i64 (d+1)) s with
    |none=>rfl
    |some b=>simp only[qAb];cases decide (b<0)<;>rfl)
   (fun x suf s hx hs=>⟨by
    rw[wrap64 (by omega) (by omega)];refine Ev.bind (ih x hx (d+1) s (by omega) (by omega) hs.1 hs.2) ?_;cases decide (mt x (d+1) s<0)
    ·exact Ev.ret _
    ·exact Ev.ret _,fun s' he=>by
     cases hb:decide (mt x (d+1) s<0)with
     |true=>rw[hb]at he;cases he
     |false=>
      rw[hb]at he;simp only[cond_false,LR.nx.injEq]at he;have hneg:¬mt x (d+1) s<0:=of_decide_eq_false hb;subst he;unfold mt at hneg⊢;cases hb2:(mf x (d+1) s).1 with
      |false=>rw[hb2]at hneg;simp at hneg
      |true=>have:=R7 x (d+1) s hb2;simp only[cond_true];omega⟩) (s0:=c+1) ⟨by omega,hc⟩
  rw[agf _ _ _ (by omega)]at hloop;refine Ev.bind hloop ?_;cases(um ks (d+1) (c+1)).1
  ·exact Ev.ret _
  ·exact Ev.ret _
theorem xE(t:Tm):Ev (fun n=>uP n t) (cu t):=by
 refine Ev.bind (nodes t 1 0 (by omega) (by omega) (by omega) (by omega)) ?_;unfold mt cu;cases hb:(mf t 1 0).1 with
 |false=>exact Ev.ret _
 |true=>
  have:=R7 t 1 0 hb;simp only[cond_true];rw[decide_eq_true (by omega)];exact Ev.ret _
end
end Abs
end Go.Proofs.YtbijdmihdagfaaaGreatDoor

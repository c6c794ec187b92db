/-
  What the run of 'awake' takes for granted: slices.Sorted, slices.Clip, slices.Clone, term.last and apply's deferred closure by their contracts. Conditions: none.
-/
import Derived.Test.YtfmdmcenjfkbhaaGreatDoorCD32ox4ebf4e
set_option linter.all false
namespace Go.Proofs.YtfmdmcenjfkbhaaGreatDoor
namespace Abs
open Go Go.Proofs
noncomputable def abW(H:List AObj):AObj→Option (AV×List AObj)
 | .mp es=>bif Nat.ble (es.length*16) 140737488355328 then some (.slice (((es.map (·.1)).mergeSort NC).map encS) .shared,H)else none
 |_=>none
noncomputable def ab1(H:List AObj):AObj→Option (AV×List AObj)
 | .box [.mapr m]=>abW H (QF H m)
 |_=>none
noncomputable def WE(H:List AObj):List AV→Option (AV×List AObj)
 |[.func g [.ptr p o]]=>bif Nat.beq g 243&&Nat.beq o 0 then ab1 H (QF H p)else none
 |_=>none
theorem ZJ{args:List AV}{H:List AObj}{r:AV×List AObj}(h:WE H args=some r):aP Tryz.prog 197 args H r.1 r.2:=by
 unfold WE at h;split at h
 ·rename_i g p o;cases hb:(Nat.beq g 243&&Nat.beq o 0)with
  |false=>rw[hb]at h;cases h
  |true=>
   rw[hb]at h;simp only[cond_true]at h;simp only[qAa]at hb;rw[qAc hb.1,qAc hb.2];unfold ab1 at h;split at h
   ·rename_i m hp;unfold abW at h;split at h
    ·rename_i es hm;cases hl:Nat.ble (es.length*16) 140737488355328 with
     |false=>rw[hl]at h;cases h
     |true=>
      rw[hl]at h;simp only[cond_true,Option.some.injEq]at h;subst h;rw[MP]at hp hm;exact EZ H p m es hp hm (qAf hl)
    ·cases h
   ·cases h
 ·cases h
theorem WB(ad:Option Addr)(len cap:Nat)(hc:len≤cap)(hl:len≤140737488355328)(W:World):Calls Tryz.prog 92 #[.slice ad len cap] W fun e W'=>e=.returned (.slice ad len len)∧W'=W:=by
 go_enter Tryz.func92,Tryz.ntmps92
 go_wp2
 go_ret
 exact⟨rfl,rfl⟩
def PV(H:List AObj):List AV→Option (AV×List AObj)
 |[.slice es _]=>bif Nat.ble es.length 140737488355328 then some (.slice es (.full es.length),H)else none
 |_=>none
theorem RQ{f:Nat}(hf:∀(ad:Option Addr) (len cap:Nat),len≤cap→len≤140737488355328→∀W,Calls Tryz.prog f #[.slice ad len cap] W fun e W'=>e=.returned (.slice ad len len)∧W'=W){args:List AV}{H:List AObj}{r:AV×List AObj}(h:PV H args=some r):aP Tryz.prog f args H r.1 r.2:=by
 unfold PV at h;split at h
 ·rename_i es tag;cases hl:Nat.ble es.length 140737488355328 with
  |false=>rw[hl]at h;cases h
  |true=>
   rw[hl]at h;simp only[cond_true,Option.some.injEq]at h;subst h;exact Vm hf es tag H (qAf hl)
 ·cases h
def WT:List (List AV)→Option (List Int)
 |[]=>some []
 |[.int .i64 n]::r=>(WT r).map (n::·)
 |_=>none
theorem Vk:∀{es:List (List AV)} {p:List Int},WT es=some p→es=p.map encI
 |[],p,h=>by cases h;rfl
 |[.int .i64 n]::r,p,h=>by
  simp only[WT]at h;obtain⟨q,hq,rfl⟩:=Option.map_eq_some_iff.1 h;rw[Vk hq];rfl
def Zt(m:Nat)(es:List (List AV)):Option (List Int)→Option (AV×List AObj)
 |some p=>bif Nat.ble (p.length*8) 140737488355328 then some (.psl 1 1 p.length,[.tip m,.arr 1 es])else none
 |none=>none
def Sd(H:List AObj)(args:List AV):Option (AV×List AObj):=match args,H with
 |[.slice [] .nils],[]=>some (.psl 0 1 0,[.arr 1 []])
 |[.slice es (.tip 0 1)],[.tip m]=>Zt m es (WT es)
 |_,_=>none
theorem Yr{args:List AV}{H:List AObj}{r:AV×List AObj}(h:Sd H args=some r):aP Tryz.prog 14 args H r.1 r.2:=by
 unfold Sd at h;split at h
 ·cases h;exact SC
 ·rename_i es m;unfold Zt at h;split at h
  ·rename_i p hp;cases hl:Nat.ble (p.length*8) 140737488355328 with
   |false=>rw[hl]at h;cases h
   |true=>
    rw[hl]at h;simp only[cond_true,Option.some.injEq]at h;subst h;have hl:=qAf hl;have e:=Vk hp;rw[e];exact TL m p p (by unfold app;rw[if_pos ⟨by simpa using hl,by simp;omega⟩];rfl)
  ·cases h
 ·cases h
def VU(H:List AObj)(args:List AV):Option (AV×List AObj):=match args,H with
 |[.slice [] .nils,.str _],[]=>some (.int .i64 (-1),[])
 |_,_=>none
theorem aaM(s:Str):aP Tryz.prog 73 [.slice [] .nils,.str s] [] (.int .i64 (-1)) []:=by
 intro κ ak w vs hen hvl hr;have h:=(Iw 0).2.2 ([],s) (-1:Int) rfl _ _ rfl _ _ rfl;refine h κ ak w vs hen hvl fun j hj=>?_
 match j,hj with
 |0,_=>exact(hr 0 (by simp)).share
 |1,_=>exact hr 1 (by simp)
theorem abq{args:List AV}{H:List AObj}{r:AV×List AObj}(h:VU H args=some r):aP Tryz.prog 73 args H r.1 r.2:=by
 unfold VU at h;split at h
 ·cases h;exact aaM _
 ·cases h
noncomputable def aax:dR:=fun f args H=>bif Nat.beq f 197 then WE H args else bif Nat.beq f 92 then PV H args else bif Nat.beq f 46 then PV H args else bif Nat.beq f 14 then Sd H args else bif Nat.beq f 73 then VU H args else none
theorem acB:∀f args H r,aax f args H=some r→aP Tryz.prog f args H r.1 r.2:=by
 intro f args H r h;unfold aax at h;cases h1:Nat.beq f 197 with
 |true=>rw[h1]at h;rw[qAc h1];exact ZJ h
 |false=>
 cases h2:Nat.beq f 92 with
 |true=>rw[h1,h2]at h;rw[qAc h2];exact RQ WB h
 |false=>
 cases h3:Nat.beq f 46 with
 |true=>rw[h1,h2,h3]at h;rw[qAc h3];exact RQ Ij h
 |false=>
 cases h4:Nat.beq f 14 with
 |true=>rw[h1,h2,h3,h4]at h;rw[qAc h4];exact Yr h
 |false=>
 cases h5:Nat.beq f 73 with
 |true=>rw[h1,h2,h3,h4,h5]at h;rw[qAc h5];exact abq h
 |false=>rw[h1,h2,h3,h4,h5]at h;cases h
def okR:List Nat:=[9,12,13,14,15,19,20,21,22,23,24,25,26,27,33,34,35,36,37,38,39,40,41,42,43,44,45,46,48,52,53,54,55,56,57,58,59,60,62,63,65,66,67,68,69,70,71,72,73,74,75,76,77,79,81,82,83,84,86,87,88,89,90,92,93,94,95,96,97,98,101,106,109,128,132,133,134,135,136,137,138,144,146,148,149,150,151,154,155,156,158,174,175,183,184,186,193,195,196,197,198,201,202,203,204,206,208,209,210,233,234,238,245,246,247,250,256,258,260,261,265,316,317,322]
def okB(f:Nat):Bool:=has okR f
theorem acU:(okR.all fun f=>gT Tryz.prog f)=true:=by kernel_rfl
theorem afq:∀f,okB f=true→gT Tryz.prog f=true:=fun f h=>qAG.1 acU f (yM h)
noncomputable def xc(call:dR)(c:Code)(s:ASt):Option (Exit×ASt):=Dk Tryz.prog call okB [(60,59,1),(17,16,10)] [154,202] 100000 c s
theorem PK{call:dR}(hc:∀f args H r,call f args H=some r→aP Tryz.prog f args H r.1 r.2){c:Code}{s:ASt}{e:Exit}{s':ASt}{Q:Exit→ASt→Prop}(h:xc call c s=some (e,s'))(hQ:Q e s'):bf Tryz.prog c Q s:=
 JQ zQ hc afq _ _ _ _ _ _ h hQ
noncomputable def Wx(call:dR)(fn:Func)(H:List AObj)(c:Code)(s:ASt):Option (AV×List AObj):=
 match xc call c s with
 |some (.ret,s)=>wR Tryz.prog fn.results.toList H.length s
 |some (.normal,s)=>wR Tryz.prog fn.results.toList H.length s
 |_=>none
theorem Ve{call:dR}(hc:∀f args H r,call f args H=some r→aP Tryz.prog f args H r.1 r.2){fn:Func}{H:List AObj}{c:Code}{s:ASt}{r:AV×List AObj}(h:Wx call fn H c s=some r):∃L,bf Tryz.prog c (Gx (tK Tryz.prog fn.results.toList false L H r.1 r.2)) s:=by
 unfold Wx at h;split at h
 ·rename_i s' hx;obtain⟨L,hL⟩:=Ah h;exact⟨L,PK hc hx hL⟩
 ·rename_i s' hx;obtain⟨L,hL⟩:=Ah h;exact⟨L,PK hc hx hL⟩
 ·cases h
noncomputable def e0:Code:=cL (Vp Tryz.f35)
noncomputable def e1:Code:=cL (cR (Vp Tryz.f35))
noncomputable def e3:Code:=cR (cR (cR (Vp Tryz.f35)))
noncomputable def V6(call:dR)(args:List AV)(H:List AObj):Option (AV×List AObj):=
 bif Nat.ble args.length Tryz.f35.ntmps then(match xc call e0 ⟨args++List.replicate (Tryz.f35.ntmps - args.length) (.tup []),H⟩with
 |some (.normal,sA)=>match xc call e1 sA with
  |some (.normal,sB)=>bif Nat.blt 10 sB.tmps.length then Wx call Tryz.f35 H e3 (sB.wr (ah (some 10) .unk))else none
  |_=>none
 |_=>none)else none
theorem aeQ:gT Tryz.prog 61=true:=by kernel_rfl
theorem adr{call:dR}(hc:∀f args H r,call f args H=some r→aP Tryz.prog f args H r.1 r.2){args:List AV}{H:List AObj}{r:AV×List AObj}(h:V6 call args H=some r):aP Tryz.prog 35 args H r.1 r.2:=by
 unfold V6 at h;cases hl:Nat.ble args.length Tryz.f35.ntmps with
 |false=>rw[hl]at h;cases h
 |true=>
 rw[hl]at h;simp only[cond_true]at h;split at h
 ·rename_i sA hA;split at h
  ·rename_i sB hB;cases hb:Nat.blt 10 sB.tmps.length with
   |false=>rw[hb]at h;cases h
   |true=>
    rw[hb]at h;simp only[cond_true]at h;obtain⟨L,hL⟩:=Ve hc h;exact TW (f:=35) (d:=61) (n:=10) (r0:=e0) (r1:=e1) (r3:=e3) (L:=L) (capO:=#[.tmp 4,.tmp 5]) @Tryz.func35 rfl (qAf hl) rfl rfl rfl rfl rfl rfl (qAf hb) aeQ afB (PK hc hA ⟨rfl,rfl⟩) (PK hc hB ⟨rfl,rfl⟩) hL
  ·cases h
 ·cases h
noncomputable def PD(call:dR)(f:Nat)(args:List AV)(H:List AObj):Option (AV×List AObj):=
 match Tryz.prog.funcs[f]? with
 |none=>none
 |some fn=>match fn.body with
  |none=>none
  |some c=>bif Nat.ble args.length fn.ntmps then Wx call fn H c ⟨args++List.replicate (fn.ntmps - args.length) (.tup []),H⟩else none
theorem aaf{call:dR}(hc:∀f args H r,call f args H=some r→aP Tryz.prog f args H r.1 r.2){f:Nat}{args:List AV}{H:List AObj}{r:AV×List AObj}(h:PD call f args H=some r):aP Tryz.prog f args H r.1 r.2:=by
 unfold PD at h;split at h
 ·cases h
 ·rename_i fn hf;split at h
  ·cases h
  ·rename_i c hb;cases hl:Nat.ble args.length fn.ntmps with
   |false=>rw[hl]at h;cases h
   |true=>
    rw[hl]at h;simp only[cond_true]at h;obtain⟨L,hL⟩:=Ve hc h;exact vP false L hf hb (qAf hl) hL
noncomputable def Li(E:dR)(n:Nat):dR:=
 Nat.rec (motive:=fun _=>dR) (fun _ _ _=>none) (fun _ ih f args H=>match E f args H with
  |some r=>some r
  |none=>bif Nat.beq f 35 then V6 ih args H else PD ih f args H) n
theorem Yb{E:dR}(hE:∀f args H r,E f args H=some r→aP Tryz.prog f args H r.1 r.2):∀(n f:Nat) (args:List AV) (H:List AObj) (r:AV×List AObj),Li E n f args H=some r→aP Tryz.prog f args H r.1 r.2:=by
 intro n
 induction n with
 |zero=>intro f args H r h;cases h
 |succ n ih=>
  intro f args H r h;change(match E f args H with
  |some r=>some r
  |none=>bif Nat.beq f 35 then V6 (Li E n) args H else PD (Li E n) f args H)=some r at h
  split at h
  ·rename_i r' hr;cases h;exact hE _ _ _ _ hr
  ·cases h1:Nat.beq f 35 with
   |true=>
    rw[h1]at h;simp only[cond_true]at h;rw[qAc h1];exact adr ih h
   |false=>
    rw[h1]at h;simp only[cond_false]at h;exact aaf ih h
noncomputable def runK(m:List Known)(f:Nat)(args:List AV)(H:List AObj):Option (AV×List AObj):=Li (known m aax) 200 f args H
theorem jQ{m:List Known}(hm:∀e∈m,aP Tryz.prog e.f e.args e.H e.res e.H'){f:Nat}{args:List AV}{H:List AObj}{r:AV}{H':List AObj}(h:runK m f args H=some (r,H')):aP Tryz.prog f args H r H':=
 by
  unfold runK at h;generalize 200=n at h;exact Yb (Sc acB m hm) n _ _ _ _ h
end Abs
end Go.Proofs.YtfmdmcenjfkbhaaGreatDoor

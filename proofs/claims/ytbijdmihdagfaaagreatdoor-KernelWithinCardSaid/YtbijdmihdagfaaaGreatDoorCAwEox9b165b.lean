/-
  What the run of 'awake' takes for granted: slices.Sorted, slices.Clip, slices.Clone, term.last and apply's deferred closure by their contracts. Conditions: none.
-/
import Derived.Test.YtbijdmihdagfaaaGreatDoorCFmuox56a40d
import Derived.Test.YtbijdmihdagfaaaGreatDoorCAbs39oxce0baa
set_option linter.all false
namespace Go.Proofs.YtbijdmihdagfaaaGreatDoor
namespace Abs
open Go Go.Proofs
noncomputable def amn(H:List AObj):AObj→Option (AV×List AObj)
 | .mp es=>bif Nat.ble (es.length*16) 140737488355328 then some (.slice (((es.map (·.1)).mergeSort QU).map encS) .shared,H)else none
 |_=>none
noncomputable def amk(H:List AObj):AObj→Option (AV×List AObj)
 | .box [.mapr m]=>amn H (ad9 H m)
 |_=>none
noncomputable def ais(H:List AObj):List AV→Option (AV×List AObj)
 |[.func g [.ptr p o]]=>bif Nat.beq g 231&&Nat.beq o 0 then amk H (ad9 H p)else none
 |_=>none
theorem akR{args:List AV}{H:List AObj}{r:AV×List AObj}(h:ais H args=some r):aR Tryz.prog 171 args H r.1 r.2:=by
 unfold ais at h;split at h
 ·rename_i g p o;cases hb:(Nat.beq g 231&&Nat.beq o 0)with
  |false=>rw[hb]at h;cases h
  |true=>
   rw[hb]at h;simp only[cond_true]at h;simp only[qAa]at hb;rw[qAc hb.1,qAc hb.2];unfold amk at h;split at h
   ·rename_i m hp;unfold amn at h;split at h
    ·rename_i es hm;cases hl:Nat.ble (es.length*16) 140737488355328 with
     |false=>rw[hl]at h;cases h
     |true=>
      rw[hl]at h;simp only[cond_true,Option.some.injEq]at h;subst h;rw[Y4]at hp hm;exact Qf H p m es hp hm (qAf hl)
    ·cases h
   ·cases h
 ·cases h
theorem afo(ad:Option Addr)(len cap:Nat)(hc:len≤cap)(hl:len≤140737488355328)(W:World):Calls Tryz.prog 301 #[.slice ad len cap] W fun e W'=>e=.returned (.slice ad len len)∧W'=W:=by
 go_enter Tryz.func301,Tryz.ntmps301
 go_wp2
 go_ret
 exact⟨rfl,rfl⟩
theorem anq{f:Nat}(hf:∀(ad:Option Addr) (len cap:Nat),len≤cap→len≤140737488355328→∀W,Calls Tryz.prog f #[.slice ad len cap] W fun e W'=>e=.returned (.slice ad len len)∧W'=W)(es:List (List AV))(tag:Tag)(H:List AObj)(hl:es.length≤140737488355328):
  aR Tryz.prog f [.slice es tag] H (.slice es (.full es.length)) H:=by
 intro κ aB w vs hen hvl hr;have h0:=hr 0 (by simp)
 match vs,hvl with
 |[v],_=>
 simp only[List.getD,qAG,qAq]at h0;cases h0 with
 |@slice _ _ a cap b off sz u h1 h2 h3 h3' h4 h5 h6 ht=>
  refine(hf a es.length cap h3 hl w).mono ?_;rintro e w' ⟨rfl,rfl⟩;refine⟨_,κ,rfl,Leave.same hen (qDx _ _),?_⟩;exact .slice b off sz u h1 h2 (qAr _) h3' h4 h5 h6 (qAr _)
def abP(H:List AObj):List AV→Option (AV×List AObj)
 |[.slice es _]=>bif Nat.ble es.length 140737488355328 then some (.slice es (.full es.length),H)else none
 |_=>none
theorem ac4{f:Nat}(hf:∀(ad:Option Addr) (len cap:Nat),len≤cap→len≤140737488355328→∀W,Calls Tryz.prog f #[.slice ad len cap] W fun e W'=>e=.returned (.slice ad len len)∧W'=W){args:List AV}{H:List AObj}{r:AV×List AObj}(h:abP H args=some r):aR Tryz.prog f args H r.1 r.2:=by
 unfold abP at h;split at h
 ·rename_i es tag;cases hl:Nat.ble es.length 140737488355328 with
  |false=>rw[hl]at h;cases h
  |true=>
   rw[hl]at h;simp only[cond_true,Option.some.injEq]at h;subst h;exact anq hf es tag H (qAf hl)
 ·cases h
def aht:List (List AV)→Option (List Int)
 |[]=>some []
 |[.int .i64 n]::r=>(aht r).map (n::·)
 |_=>none
theorem agx:∀{es:List (List AV)} {p:List Int},aht es=some p→es=p.map encI
 |[],p,h=>by cases h;rfl
 |[.int .i64 n]::r,p,h=>by
  simp only[aht]at h;obtain⟨q,hq,rfl⟩:=Option.map_eq_some_iff.1 h;rw[agx hq];rfl
def aj7(m:Nat)(es:List (List AV)):Option (List Int)→Option (AV×List AObj)
 |some p=>bif Nat.ble (p.length*8) 140737488355328 then some (.psl 1 1 p.length,[.tip m,.arr 1 es])else none
 |none=>none
def acH(H:List AObj)(args:List AV):Option (AV×List AObj):=match args,H with
 |[.slice [] .nils],[]=>some (.psl 0 1 0,[.arr 1 []])
 |[.slice es (.tip 0 1)],[.tip m]=>aj7 m es (aht es)
 |_,_=>none
theorem aiL{args:List AV}{H:List AObj}{r:AV×List AObj}(h:acH H args=some r):aR Tryz.prog 103 args H r.1 r.2:=by
 unfold acH at h;split at h
 ·cases h;exact adI
 ·rename_i es m;unfold aj7 at h;split at h
  ·rename_i p hp;cases hl:Nat.ble (p.length*8) 140737488355328 with
   |false=>rw[hl]at h;cases h
   |true=>
    rw[hl]at h;simp only[cond_true,Option.some.injEq]at h;subst h;have hl:=qAf hl;have e:=agx hp;rw[e];exact ae4 m p p (by unfold app;rw[if_pos ⟨by simpa using hl,by simp;omega⟩];rfl)
  ·cases h
 ·cases h
def aie(H:List AObj)(args:List AV):Option (AV×List AObj):=match args,H with
 |[.slice [] .nils,.str _],[]=>some (.int .i64 (-1),[])
 |_,_=>none
theorem akv(s:Str):aR Tryz.prog 116 [.slice [] .nils,.str s] [] (.int .i64 (-1)) []:=by
 intro κ aB w vs hen hvl hr;have h:=(Ui 0).2.2 ([],s) (-1:Int) rfl _ _ rfl _ _ rfl;refine h κ aB w vs hen hvl fun j hj=>?_
 match j,hj with
 |0,_=>exact(hr 0 (by simp)).share
 |1,_=>exact hr 1 (by simp)
theorem ak6{args:List AV}{H:List AObj}{r:AV×List AObj}(h:aie H args=some r):aR Tryz.prog 116 args H r.1 r.2:=by
 unfold aie at h;split at h
 ·cases h;exact akv _
 ·cases h
noncomputable def alD:fD:=fun f args H=>bif Nat.beq f 171 then ais H args else bif Nat.beq f 46 then abP H args else bif Nat.beq f 301 then abP H args else bif Nat.beq f 103 then acH H args else bif Nat.beq f 116 then aie H args else none
theorem anS:∀f args H r,alD f args H=some r→aR Tryz.prog f args H r.1 r.2:=by
 intro f args H r h;unfold alD at h;cases h1:Nat.beq f 171 with
 |true=>rw[h1]at h;rw[qAc h1];exact akR h
 |false=>
 cases h2:Nat.beq f 46 with
 |true=>rw[h1,h2]at h;rw[qAc h2];exact ac4 Xk h
 |false=>
 cases h3:Nat.beq f 301 with
 |true=>rw[h1,h2,h3]at h;rw[qAc h3];exact ac4 afo h
 |false=>
 cases h4:Nat.beq f 103 with
 |true=>rw[h1,h2,h3,h4]at h;rw[qAc h4];exact aiL h
 |false=>
 cases h5:Nat.beq f 116 with
 |true=>rw[h1,h2,h3,h4,h5]at h;rw[qAc h5];exact ak6 h
 |false=>rw[h1,h2,h3,h4,h5]at h;cases h
def okR:List Nat:=[7,13,14,15,16,17,18,19,20,21,24,28,43,44,45,46,47,48,49,50,51,52,53,54,55,56,57,62,63,67,68,76,77,78,79,80,83,84,86,87,88,89,90,91,92,93,94,95,98,99,100,101,102,103,104,105,106,107,111,114,115,116,117,119,122,124,125,126,127,128,133,137,140,159,163,165,166,167,169,170,171,172,174,175,176,177,178,179,180,182,184,185,186,187,191,194,196,197,213,214,222,223,224,225,226,228,232,233,234,237,242,244,246,247,251,278,279,301,302,303,307,308,313,323]
def okB(f:Nat):Bool:=has okR f
theorem anh:(okR.all fun f=>ah Tryz.prog f)=true:=by kernel_rfl
theorem aoj:∀f,okB f=true→ah Tryz.prog f=true:=fun f h=>qAC.1 anh f (FV h)
noncomputable def xc(call:fD)(c:Code)(s:ASt):Option (Exit×ASt):=ME Tryz.prog call okB [(60,59,1),(17,16,10)] [101,178] 100000 c s
theorem abQ{call:fD}(hc:∀f args H r,call f args H=some r→aR Tryz.prog f args H r.1 r.2){c:Code}{s:ASt}{e:Exit}{s':ASt}{Q:Exit→ASt→Prop}(h:xc call c s=some (e,s'))(hQ:Q e s'):bF Tryz.prog c Q s:=
 Vw Gi hc aoj _ _ _ _ _ _ h hQ
noncomputable def ahb(call:fD)(fn:Func)(H:List AObj)(c:Code)(s:ASt):Option (AV×List AObj):=
 match xc call c s with
 |some (.ret,s)=>Dm Tryz.prog fn.results.toList H.length s
 |some (.normal,s)=>Dm Tryz.prog fn.results.toList H.length s
 |_=>none
theorem agG{call:fD}(hc:∀f args H r,call f args H=some r→aR Tryz.prog f args H r.1 r.2){fn:Func}{H:List AObj}{c:Code}{s:ASt}{r:AV×List AObj}(h:ahb call fn H c s=some r):∃L,bF Tryz.prog c (RY (zA Tryz.prog fn.results.toList false L H r.1 r.2)) s:=by
 unfold ahb at h;split at h
 ·rename_i s' hx;obtain⟨L,hL⟩:=Jw h;exact⟨L,abQ hc hx hL⟩
 ·rename_i s' hx;obtain⟨L,hL⟩:=Jw h;exact⟨L,abQ hc hx hL⟩
 ·cases h
noncomputable def e0:Code:=cL (bdy Tryz.f44)
noncomputable def e1:Code:=cL (cR (bdy Tryz.f44))
noncomputable def e3:Code:=cR (cR (cR (bdy Tryz.f44)))
noncomputable def aha(call:fD)(args:List AV)(H:List AObj):Option (AV×List AObj):=
 bif Nat.ble args.length Tryz.f44.ntmps then(match xc call e0 ⟨args++List.replicate (Tryz.f44.ntmps - args.length) (.tup []),H⟩with
 |some (.normal,sA)=>match xc call e1 sA with
  |some (.normal,sB)=>bif Nat.blt 10 sB.tmps.length then ahb call Tryz.f44 H e3 (sB.wr (aA (some 10) .unk))else none
  |_=>none
 |_=>none)else none
theorem apE:ah Tryz.prog 81=true:=by kernel_rfl
theorem amW{call:fD}(hc:∀f args H r,call f args H=some r→aR Tryz.prog f args H r.1 r.2){args:List AV}{H:List AObj}{r:AV×List AObj}(h:aha call args H=some r):aR Tryz.prog 44 args H r.1 r.2:=by
 unfold aha at h;cases hl:Nat.ble args.length Tryz.f44.ntmps with
 |false=>rw[hl]at h;cases h
 |true=>
 rw[hl]at h;simp only[cond_true]at h;split at h
 ·rename_i sA hA;split at h
  ·rename_i sB hB;cases hb:Nat.blt 10 sB.tmps.length with
   |false=>rw[hb]at h;cases h
   |true=>
    rw[hb]at h;simp only[cond_true]at h;obtain⟨L,hL⟩:=agG hc h;exact afv (f:=44) (d:=81) (n:=10) (r0:=e0) (r1:=e1) (r3:=e3) (L:=L) (capO:=#[.tmp 4,.tmp 5]) @Tryz.func44 rfl (qAf hl) rfl rfl rfl rfl rfl rfl (qAf hb) apE aoW (abQ hc hA ⟨rfl,rfl⟩) (abQ hc hB ⟨rfl,rfl⟩) hL
  ·cases h
 ·cases h
noncomputable def abR(call:fD)(f:Nat)(args:List AV)(H:List AObj):Option (AV×List AObj):=
 match Tryz.prog.funcs[f]? with
 |none=>none
 |some fn=>match fn.body with
  |none=>none
  |some c=>bif Nat.ble args.length fn.ntmps then ahb call fn H c ⟨args++List.replicate (fn.ntmps - args.length) (.tup []),H⟩else none
theorem akH{call:fD}(hc:∀f args H r,call f args H=some r→aR Tryz.prog f args H r.1 r.2){f:Nat}{args:List AV}{H:List AObj}{r:AV×List AObj}(h:abR call f args H=some r):aR Tryz.prog f args H r.1 r.2:=by
 unfold abR at h;split at h
 ·cases h
 ·rename_i fn hf;split at h
  ·cases h
  ·rename_i c hb;cases hl:Nat.ble args.length fn.ntmps with
   |false=>rw[hl]at h;cases h
   |true=>
    rw[hl]at h;simp only[cond_true]at h;obtain⟨L,hL⟩:=agG hc h;exact xK false L hf hb (qAf hl) hL
noncomputable def Wv(E:fD)(n:Nat):fD:=
 Nat.rec (motive:=fun _=>fD) (fun _ _ _=>none) (fun _ ih f args H=>match E f args H with
  |some r=>some r
  |none=>bif Nat.beq f 44 then aha ih args H else abR ih f args H) n
theorem aiI{E:fD}(hE:∀f args H r,E f args H=some r→aR Tryz.prog f args H r.1 r.2):∀(n f:Nat) (args:List AV) (H:List AObj) (r:AV×List AObj),Wv E n f args H=some r→aR Tryz.prog f args H r.1 r.2:=by
 intro n
 induction n with
 |zero=>intro f args H r h;cases h
 |succ n ih=>
  intro f args H r h;change(match E f args H with
  |some r=>some r
  |none=>bif Nat.beq f 44 then aha (Wv E n) args H else abR (Wv E n) f args H)=some r at h
  split at h
  ·rename_i r' hr;cases h;exact hE _ _ _ _ hr
  ·cases h1:Nat.beq f 44 with
   |true=>
    rw[h1]at h;simp only[cond_true]at h;rw[qAc h1];exact amW ih h
   |false=>
    rw[h1]at h;simp only[cond_false]at h;exact akH ih h
noncomputable def runK(m:List Known)(f:Nat)(args:List AV)(H:List AObj):Option (AV×List AObj):=Wv (known m alD) 200 f args H
theorem lH{m:List Known}(hm:∀e∈m,aR Tryz.prog e.f e.args e.H e.res e.H'){f:Nat}{args:List AV}{H:List AObj}{r:AV}{H':List AObj}(h:runK m f args H=some (r,H')):aR Tryz.prog f args H r H':=
 by
  unfold runK at h;generalize 200=n at h;exact aiI (adx anS m hm) n _ _ _ _ h
end Abs
end Go.Proofs.YtbijdmihdagfaaaGreatDoor

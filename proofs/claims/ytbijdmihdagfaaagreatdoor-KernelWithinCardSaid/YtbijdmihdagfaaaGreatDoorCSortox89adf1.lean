/-
  The contracts of maps.Keys and slices.Sorted on abstract values, by the kit's own proofs. Conditions: none.
-/
import Derived.KernelRfl
import Derived.Defers
import Derived.Recover
import Derived.Tactics
import Derived.Tactics2
import Derived.WalkKit
import Derived.Laws.Externs
import Derived.Test.YtbijdmihdagfaaaGreatDoorCEnox29f0d5
set_option linter.all false
namespace Go.Proofs.YtbijdmihdagfaaaGreatDoor
namespace Abs
section
open Go Go.Proofs Go.RowKit Go.Maps Go.Sort Go.Shelf
theorem alp(m:Nat):AnyZ.SortsIn Tryz.prog Tryz.OB Fence.wide m:=
 ⟨fun blk off cap ss W hH hblk hsz=>callsIn_wide.2 (AnyM.slices_Sort_string Tryz.afP blk off cap ss W hH hblk hsz),
  fun p cap W=>callsIn_wide.2 (AnyM.slices_Sort_string_none Tryz.afP p cap W)⟩
set_option maxHeartbeats 1000000 in
theorem agQ(b bm nn:Nat)(D0:DataW Unit)(R:Value→Option (DataW Unit×List MemPlace))(w:World)(hbm:bm<w.heap.size)(hc:w.cell? ⟨bm,0,none⟩=some (.map (some b)))(hown:w.ownsMap Tryz.prog 9 R b nn D0)(hmax:Maps.size D0≤maxLen)(hbytes:Maps.size D0*16≤140737488355328):
  CallsIn Fence.wide 5 Tryz.prog 171 #[.func (.func 231) #[] #[.pointer (some ⟨bm,0,none⟩)]] w fun e w'=>∃(v:Value) (ss:List (List UInt8)),e=.returned v∧ss.Perm (strKeys D0)∧
   w'.ownsRow w.heap.size 9 1 v ss.length ((ss.mergeSort (fun x y=>decide (x≤y))).map encStr)∧(v=.slice none 0 0↔ss=[])∧Below w.heap.size w w':=by
 have hseq:SeqGives Fence.wide 2 Tryz.prog 231 #[.pointer (some ⟨bm,0,none⟩)] encStr (fun ss=>ss.Perm (strKeys D0)) (Maps.size D0) w:=
  AnyZ.keys_gives (ρ:=Tryz.Ug) {Tryz.amR with} Fence.wide _ trivial rfl (by omega) bm b nn D0 _ hbm hc hown
 exact AnyZ.sorted_in Tryz.ajL Fence.wide 5 trivial trivial trivial trivial rfl (by omega) (alp _) (enters_of Tryz.func230 (by kernel_rfl) rfl) 231 #[.pointer (some ⟨bm,0,none⟩)] trivial (enters_of Tryz.func231 (by kernel_rfl) rfl) _ _ hmax hbytes _ hseq
theorem Leave.same{κ:aK}{aB:cZ}{H:List AObj}{w w':World}(he:Entry κ aB H w)(hb:Go.RowKit.Below w.heap.size w w'):Leave κ κ aB H H w w':=by
 have hcell:∀b off u,w.cell? ⟨b,off,none⟩=some u→w'.cell? ⟨b,off,none⟩=some u:=fun b off u hc=>by
  have hlt:=lt_of_cell hc;simp only[World.cell?,hb.block b hlt]at hc⊢;exact hc
 have hevo:Evo (aG aB κ H) w w':=⟨hb.size,fun b off u _ hc=>hcell b off u hc,fun b c e z hx=>⟨c,by rw[hb.block b (qBz.1 hx).1];exact hx,rfl⟩⟩;exact⟨he.klen,qAr _,bT.refl _,he.resv,fun l b h1 h2=>(he.obj l b h1 h2).mono (hb.block b (he.bound l b h1)) hevo (bT.refl _) (fun _ _ h _=>h),
  fun l b h1 h2=>.inr ⟨l,h1,h2⟩,he.apart,fun l b h1=>qAR (he.bound l b h1) hb.size,fun b hlt _=>hb.block b hlt,hevo,fun _ _ h _=>h,hb.os,hb.tape,hb.output⟩
theorem anR{κ:aK}{aB:cZ}{H:List AObj}{w:World}(he:Entry κ aB H w){b o:Nat}(h:aG aB κ H b o):b<w.heap.size:=by
 rcases h with h|⟨l,h1,_⟩
 ·exact he.pvlt b o h
 ·exact he.bound l b h1
theorem Qf(H:List AObj)(p m:Nat)(es:List (List UInt8×AV))(hp:obj? H p=.box [.mapr m])(hm:obj? H m=.mp es)(hb16:es.length*16≤140737488355328):
  aR Tryz.prog 171 [.func 231 [.ptr p 0]] H (.slice (((es.map (·.1)).mergeSort QU).map encS) .shared) H:=by
 intro κ aB w vs hen hlen hr;have h0:=hr 0 (by simp)
 match vs,hlen with
 |[v],_=>
 simp only[List.getD,qAG,qAq]at h0;obtain⟨cs,rfl,hcl,hcr⟩:=h0.BD
 match cs,hcl with
 |[cp],_=>
 have h1:=hcr 0 (by simp);simp only[List.getD,qAG,qAq]at h1;obtain⟨bm,rfl,hbm⟩:=h1.lK;have ho:=hen.obj p bm hbm (by rw[hp];trivial);rw[hp]at ho;obtain⟨c,el,g1,g2,g3⟩:=ho;have h2:=g3 0 (by simp);simp only[List.getD,qAG,qAq]at h2;have hcell:w.cell? ⟨bm,0,none⟩=some (c.getD 0 undef):=by
  have:0<c.size:=by rw[g2];simp
  simp[World.cell?,g1,Array.getD,this]
 generalize c.getD 0 undef=cv at h2 hcell;cases h2 with
 |@mapr _ b hb=>
 have hmo:=hen.obj m b hb (by rw[hm];trivial);rw[hm]at hmo;obtain⟨ms,clock,k1,k2,k3,k4⟩:=hmo;have k31:es.length≤140737488355328:=by have:=k3.1;rwa[qAj]at this
 have hk9:Tryz.prog.underlying 9=some .string:=by kernel_rfl
 let R:Value→Option (DataW Unit×List MemPlace):=fun _=>some (.lit (.bool true),[])
 have hkeys:∀j,(hj:j<ms.size)→keyOf Tryz.prog 9 ms[j].key=some (.string (es.getD j ([],.unk)).1):=fun j hj=>by
  have h5:=(k4 j (by omega)).1;have e:ms.getD j default=ms[j]:=by simp[Array.getD,hj]
  rw[e]at h5;rw[h5,Go.WideMaps.keyOf_string_mk hk9];have hmem:(es.getD j ([],.unk)).1∈es.map (·.1):=by
   have hj':j<es.length:=by omega
   rw[List.getD,qAd hj',qAq];exact qBk.2 ⟨_,qAX _,rfl⟩
  have:=k3.2.2 _ hmem;simpa[ByteArray.size,maxLen]using this
 have hrd:∀j,(hj:j<ms.size)→WideElems.rd Tryz.prog 9 R ms[j]=some (.string (es.getD j ([],.unk)).1,.lit (.bool true)):=fun j hj=>by
  simp only[WideElems.rd,hkeys j hj,qAb,R,qAw]
 have hown:w.ownsMap Tryz.prog 9 R b es.length (.map ((ms.toList.map (WideElems.rg Tryz.prog 9 R)).foldr DataW.insert [])):=by
  refine⟨ms,clock,k1,⟨?_,k3.2.1,fun x hx=>?_⟩,by omega,rfl⟩
  ·simp only[maxLen];omega
  ·obtain⟨j,hj,rfl⟩:=qCN hx;simp only[qCb]at hj;exact⟨_,by simpa using hrd j hj⟩
 have hperm:(strKeys (.map ((ms.toList.map (WideElems.rg Tryz.prog 9 R)).foldr DataW.insert []))).Perm (es.map (·.1)):=by
  simp only[strKeys];refine((WideShapes.sorted_perm _).map _).trans ?_;have e:(ms.toList.map (WideElems.rg Tryz.prog 9 R)).map (fun p=>strOf p.1)=es.map (·.1):=by
   apply qCB
   ·simp[k2]
   ·intro j h1 h2;simp only[qAj,qCb]at h1 h2;simp only[List.getElem_map,Array.getElem_toList];rw[WideElems.rg_of (hrd j h1)];simp[strOf,List.getD,qAd h2]
  rw[e]
 have hsz:Maps.size (H:=Unit) (.map ((ms.toList.map (WideElems.rg Tryz.prog 9 R)).foldr DataW.insert []))=es.length:=by
  rw[size_eq,DataW.length_sorted];simp[k2]
 have hcall:=callsIn_wide.1 (agQ b bm es.length _ R w (hen.bound p bm hbm) hcell hown (by rw[hsz];simp only[maxLen];omega) (by rw[hsz];exact hb16));refine hcall.mono ?_;rintro e w' ⟨v,ss,rfl,hss,hrow,_,hbel⟩;refine⟨v,κ,rfl,Leave.same hen hbel,?_⟩;have hsort:ss.mergeSort (fun x y=>decide (x≤y))=(es.map (·.1)).mergeSort QU:=mergeSort_of_perm (hss.trans hperm);rw[hsort]at hrow;generalize hL:(es.map (·.1)).mergeSort QU=L at hrow;have hLl:L.length=es.length:=by rw[←hL];simp
 have hssl:ss.length=es.length:=by have:=(hss.trans hperm).length_eq;simpa using this
 have hLk:∀x∈L,x.length≤9223372036854775807:=fun x hx=>k3.2.2 x (by rw[←hL]at hx;exact(List.mergeSort_perm _ _).mem_iff.1 hx);obtain⟨hrl,hrow⟩:=hrow;rcases hrow with⟨rfl,hz⟩|⟨g,cap,cur,rfl,hbase,hg,hcap,_,hcur,htake⟩
 ·have:L=[]:=qAO.1 (by omega);subst this;have:=Rel.slice (w:=w') (κ:=κ) (pv:=aG aB κ H) (es:=[]) (tag:=.shared) (a:=none) (cap:=0) 0 0 1 (fun _ _=>undef) (fun i h=>by cases h) (fun h=>(h rfl).elim) (qAr _) (by simp) (fun i j h=>by cases h) (fun i j h=>by cases h) (fun i j h=>by cases h) trivial;simpa using this
 ·have hgi:∀i,i<L.length→w'.cell? ⟨g,0+(i*1+0),none⟩=some (encStr (L.getD i [])):=fun i hi=>by
   have hcs:i<cur.size:=by omega
   have e1:cur[i]=encStr (L.getD i []):=by
    have:(cur.toList.take (ss.length*1))[i]? =some (encStr (L.getD i [])):=by
     rw[htake,qAD,qAd hi];simp[List.getD,qAd hi]
    rw[qBm,if_pos (by omega)]at this;simpa[hcs]using this
   have e0:0+(i*1+0)=i:=by omega
   rw[e0];simp[World.cell?,hg,hcs,e1]
  have hlen2:(L.map encS).length=es.length:=by simp[hLl]
  have:=Rel.slice (w:=w') (κ:=κ) (pv:=aG aB κ H) (es:=L.map encS) (tag:=.shared) (a:=some ⟨g,0,none⟩) (cap:=cap) g 0 1 (fun i _=>encStr (L.getD i []))
   (fun i hi=>by simp only[qAj]at hi;simp[List.getD,qAd hi,encS]) (fun _=>rfl) (by omega) (by omega)
   (fun i j _ _ hpv=>by have:=anR hen hpv;omega)
   (fun i j hi hj=>by
    simp only[qAj]at hi;have hj0:j=0:=by omega
    subst hj0;exact hgi i hi)
   (fun i j hi hj=>by
    simp only[qAj]at hi;have hj0:j=0:=by omega
    subst hj0;have e:((L.map encS).getD i []).getD 0 .unk=.str (L.getD i []):=by simp[List.getD,qAd hi,encS]
    rw[e];refine .str (hLk _ ?_);rw[List.getD,qAd hi];exact qAX _) trivial
  rw[hlen2]at this;rw[hssl];exact this
end
section
open Go
def eqT:Tag→Tag→Bool
 | .shared,.shared=>true
 | .nils,.nils=>true
 | .tip l z,.tip l' z'=>Nat.beq l l'&&Nat.beq z z'
 | .full n,.full m=>Nat.beq n m
 |_,_=>false
def eqB:List UInt8→List UInt8→Bool
 |[],[]=>true
 |a::s,b::t=>Nat.beq a.toNat b.toNat&&eqB s t
 |_,_=>false
mutual
def AJ:AV→AV→Bool
 | .unk,.unk=>true
 | .int k n,.int k' n'=>decide (k=k')&&decide (n=n')
 | .bool b,.bool b'=>b==b'
 | .str s,.str s'=>eqB s s'
 | .nilp,.nilp=>true
 | .ptr l o,.ptr l' o'=>Nat.beq l l'&&Nat.beq o o'
 | .slice es t,.slice es' t'=>eqT t t'&&Zx es es'
 | .agg cs,.agg cs'=>QB cs cs'
 | .tup cs,.tup cs'=>QB cs cs'
 | .func f cs,.func f' cs'=>Nat.beq f f'&&QB cs cs'
 | .mapr l,.mapr l'=>Nat.beq l l'
 | .nilFunc,.nilFunc=>true
 | .psl l z n,.psl l' z' n'=>Nat.beq l l'&&(Nat.beq z z'&&Nat.beq n n')
 |_,_=>false
def QB:List AV→List AV→Bool
 |[],[]=>true
 |c::cs,c'::cs'=>AJ c c'&&QB cs cs'
 |_,_=>false
def Zx:List (List AV)→List (List AV)→Bool
 |[],[]=>true
 |c::cs,c'::cs'=>QB c c'&&Zx cs cs'
 |_,_=>false
end
def eqM:List (List UInt8×AV)→List (List UInt8×AV)→Bool
 |[],[]=>true
 |(k,v)::m,(k',v')::m'=>eqB k k'&&(AJ v v'&&eqM m m')
 |_,_=>false
def eqO:AObj→AObj→Bool
 | .box cs,.box cs'=>QB cs cs'
 | .tip n,.tip n'=>Nat.beq n n'
 | .dead,.dead=>true
 | .mp m,.mp m'=>eqM m m'
 | .arr z es,.arr z' es'=>Nat.beq z z'&&Zx es es'
 |_,_=>false
def Zw:List AObj→List AObj→Bool
 |[],[]=>true
 |c::cs,c'::cs'=>eqO c c'&&Zw cs cs'
 |_,_=>false
theorem apZ{x y:Tag}(h:eqT x y=true):x=y:=by
 cases x<;>cases y<;>simp only[eqT,qAa,qAI]at h
 ·rfl
 ·rfl
 ·rw[qAc h.1,qAc h.2]
 ·rw[qAc h]
theorem adB:∀{x y:List UInt8},eqB x y=true→x=y
 |[],[],_=>rfl
 |a::s,b::t,h=>by
  simp only[eqB,qAa]at h;rw[adB h.2,UInt8.toNat_inj.1 (qAc h.1)]
mutual
theorem akd:∀{x y:AV},AJ x y=true→x=y
 | .unk,y,h=>by cases y<;>simp[AJ]at h⊢
 | .int k n,y,h=>by cases y<;>simp[AJ]at h⊢;exact h
 | .bool b,y,h=>by cases y<;>simp[AJ]at h⊢;exact h
 | .str s,y,h=>by cases y<;>simp only[AJ,qAI]at h;rw[adB h]
 | .nilp,y,h=>by cases y<;>simp[AJ]at h⊢
 | .ptr l o,y,h=>by
  cases y<;>simp only[AJ,qAI,qAa]at h;rw[qAc h.1,qAc h.2]
 | .slice es t,y,h=>by
  cases y<;>simp only[AJ,qAI,qAa]at h;rw[apZ h.1,aad h.2]
 | .agg cs,y,h=>by cases y<;>simp only[AJ,qAI]at h;rw[Gx h]
 | .tup cs,y,h=>by cases y<;>simp only[AJ,qAI]at h;rw[Gx h]
 | .func f cs,y,h=>by
  cases y<;>simp only[AJ,qAI,qAa]at h;rw[qAc h.1,Gx h.2]
 | .mapr l,y,h=>by cases y<;>simp only[AJ,qAI]at h;rw[qAc h]
 | .nilFunc,y,h=>by cases y<;>simp[AJ]at h⊢
 | .eptr _,y,h=>by cases y<;>simp[AJ]at h
 | .psl l z n,y,h=>by
  cases y<;>simp only[AJ,qAI,qAa]at h;rw[qAc h.1,qAc h.2.1,qAc h.2.2]
 | .flist _,y,h=>by cases y<;>simp[AJ]at h
theorem Gx:∀{x y:List AV},QB x y=true→x=y
 |[],y,h=>by cases y<;>simp[QB]at h⊢
 |c::cs,y,h=>by
  cases y<;>simp only[QB,qAI,qAa]at h;rw[akd h.1,Gx h.2]
theorem aad:∀{x y:List (List AV)},Zx x y=true→x=y
 |[],y,h=>by cases y<;>simp[Zx]at h⊢
 |c::cs,y,h=>by
  cases y<;>simp only[Zx,qAI,qAa]at h;rw[Gx h.1,aad h.2]
end
theorem aji:∀{x y:List (List UInt8×AV)},eqM x y=true→x=y
 |[],y,h=>by cases y<;>simp[eqM]at h⊢
 |(k,v)::m,y,h=>by
  cases y with
  |nil=>simp[eqM]at h
  |cons p m'=>
   obtain⟨k',v'⟩:=p;simp only[eqM,qAa]at h;rw[adB h.1,akd h.2.1,aji h.2.2]
theorem aoB{x y:AObj}(h:eqO x y=true):x=y:=by
 cases x<;>cases y<;>simp only[eqO,qAI,qAa]at h
 ·rw[Gx h]
 ·rw[qAc h]
 ·rw[aji h]
 ·rfl
 ·rw[qAc h.1,aad h.2]
theorem agL:∀{x y:List AObj},Zw x y=true→x=y
 |[],y,h=>by cases y<;>simp[Zw]at h⊢
 |c::cs,y,h=>by
  cases y<;>simp only[Zw,qAI,qAa]at h;rw[aoB h.1,agL h.2]
structure Known where
 f:Nat
 args:List AV
 H:List AObj
 res:AV
 H':List AObj
def known:List Known→fD→fD
 |[],E,f,args,H=>E f args H
 |e::m,E,f,args,H=>bif Nat.beq e.f f&&(QB e.args args&&Zw e.H H)then some (e.res,e.H')else known m E f args H
theorem adx{P:Program}{E:fD}(hE:∀f args H r,E f args H=some r→aR P f args H r.1 r.2):∀(m:List Known),(∀e∈m,aR P e.f e.args e.H e.res e.H')→∀f args H r,known m E f args H=some r→aR P f args H r.1 r.2
 |[],_,f,args,H,r,h=>hE f args H r h
 |e::m,hm,f,args,H,r,h=>by
  unfold known at h;cases hb:(Nat.beq e.f f&&(QB e.args args&&Zw e.H H))with
  |false=>rw[hb]at h;exact adx hE m (fun e he=>hm e (qAk _ he)) f args H r h
  |true=>
   rw[hb]at h;simp only[cond_true,Option.some.injEq]at h;subst h;simp only[qAa]at hb;have:=hm e (by simp);rw[qAc hb.1,Gx hb.2.1,agL hb.2.2]at this;exact this
end
section
open Go Go.Proofs
theorem Sim.Cu{C:Ctx}{κ:aK}{s:ASt}{a:Act}{w:World}(h:Sim C κ s a w)(D:List Deferred):Sim {C with ds:=D} κ s {a with defers:=D} w:=
 {h with defers:=rfl}
theorem Qp{fn:Func}{args:List AV}{H:List AObj}{κ:aK}{aB:cZ}{w:World}{vs:List Value}(hen:Entry κ aB H w)(hvl:vs.length=args.length)(hr:∀j,j<args.length→Rel w κ (aG aB κ H) (args.getD j .unk) (vs.getD j undef)):
  Sim (bodyC κ aB H w []) κ ⟨args++List.replicate (fn.ntmps - args.length) (.tup []),H⟩ {tmps:=vs.toArray++Array.replicate (fn.ntmps - vs.toArray.size) undef,defers:=[]} w:=by
 refine⟨rfl,by simp[hvl],?_,hen.klen,bT.refl _,hen.resv,hen.obj,hen.apart,fun l b h1 h2 ho=>ho.2 l h1 h2,hen.bound,fun b o h=>⟨hen.pvlt b o h,fun l hl=>hen.pvdis b o l h hl⟩,fun b hb=>hb.1,fun _ _=>rfl,rfl,rfl,rfl,qAr _,fun _ _ h _=>h,Evo.refl _ _⟩;intro n hn;by_cases hlt:n<args.length
 ·have e1:(args++List.replicate (fn.ntmps - args.length) (AV.tup [])).getD n .unk=args.getD n .unk:=by simp[qAe hlt]
  have e2:(vs.toArray++Array.replicate (fn.ntmps - vs.toArray.size) undef).getD n undef=vs.getD n undef:=by
   simp_all
  rw[e1,e2];exact hr n hlt
 ·have e1:(args++List.replicate (fn.ntmps - args.length) (AV.tup [])).getD n .unk=.tup []:=by
   grind
  have e2:(vs.toArray++Array.replicate (fn.ntmps - vs.toArray.size) undef).getD n undef=undef:=by
   simp_all
  rw[e1,e2];exact gY
theorem afv{P:Program}{f d n:Nat}{r0 r1 r3:Code}{id:Nat}{o1 o2:Oper}{args:List AV}{H H':List AObj}{res:AV}{sA sB:ASt}{L:List Nat}{fn:Func}{capO:Array Operand}
  (hf:P.funcs[f]? =some fn) (hb:fn.body=some (r0.seq (r1.seq ((Code.region id #[o1,o2] false).seq r3)))) (hlen:args.length≤fn.ntmps)
  (h1:o1.op=.makeFunc (.func d) #[] capO) (g1:o1.guard=none) (d1:o1.dst=some n) (h2:o2.op=.defer {callee:=.value (.tmp n),args:=#[],argTypes:=#[]}) (g2:o2.guard=none) (d2:o2.dst=none) (h12:n<sB.tmps.length) (hokd:ah P d=true)
  (hidle:∀(xs:Array Value) (w:World),xs.size=capO.size→CallsD P d xs .returning w fun e u' w'=>e=.returned (.tuple #[])∧u'=.returning∧w'=w)
  (hr0:bF P r0 (fun e s=>e=.normal∧s=sA) ⟨args++List.replicate (fn.ntmps - args.length) (.tup []),H⟩)
  (hr1:bF P r1 (fun e s=>e=.normal∧s=sB) sA)
  (hr3:bF P r3 (RY (zA P fn.results.toList false L H res H')) (sB.wr (aA (some n) .unk))):aR P f args H res H':=by
 intro κ aB w vs hen hvl hr;refine calls_of_wp_defers hf hb ?_;have hsim:Sim (bodyC κ aB H w []) κ ⟨args++List.replicate (fn.ntmps - args.length) (.tup []),H⟩ {tmps:=vs.toArray++Array.replicate (fn.ntmps - vs.toArray.size) undef,defers:=[]} w:=Qp hen hvl hr;refine wp_seq (wp_mono (hr0 _ κ _ w hsim) ?_);rintro e a w1 ⟨s,κ1,⟨rfl,rfl⟩,hs1⟩;refine wp_seq (wp_mono (hr1 _ κ1 _ w1 hs1) ?_);rintro e a w2 ⟨s,κ2,⟨rfl,rfl⟩,hs2⟩;refine wp_seq (wp_region ?_);obtain⟨_,_,ty1,ps1,af1,_⟩:=o1;obtain⟨_,_,ty2,ps2,af2,_⟩:=o2;simp only at h1 g1 d1 h2 g2 d2;subst h1 g1 d1 h2 g2 d2;have h12':n<a.tmps.size:=by rw[hs2.len];exact h12
 have hmf:∀(fn:Fn) (first cap:Array Value) (w:World),(Instr.makeFunc fn first cap).run P w=.ok (.func fn first cap) w:=fun _ _ _ _=>rfl;have key:∀xs:Array Value,∃u,u=Value.func (.func d) #[] xs:=fun xs=>⟨_,rfl⟩;simp only[wpOps,Region.wanted,Array.size,List.range,List.range.loop,qCU,qAu,qAE];simp[hmf,go_sem,h12'];refine .inl ?_;have fin:∀xs:Array Value,xs.size=capO.size→r3.wp P (bodyPostD P fn fun e w'=>∃v' κ',e=Ending.returned v'∧Leave κ κ' aB H H' w w'∧Rel w' κ' (aG aB κ' H') res v') {tmps:=a.tmps.setIfInBounds n (.func (.func d) #[] xs),defers:=[{target:=.fn (.func d) xs,args:=#[]}]} w2:=by
  intro xs hxs;have hs3:=(hs2.aA (some n) (v:=.unk) (u:=.func (.func d) #[] xs) (.unk _)).Cu [{target:=.fn (.func d) xs,args:=#[]}];refine wp_mono (hr3 _ κ2 _ w2 hs3) ?_;have fin2:∀(s':ASt) (κ':aK) (a':Act) (w':World),zA P fn.results.toList false L H res H' s'→Sim (bodyC κ aB H w [{target:=.fn (.func d) xs,args:=#[]}]) κ' s' a' w'→Leaves P fn a'.tmps (fun e w'=>∃v' κ',e=Ending.returned v'∧Leave κ κ' aB H H' w w'∧Rel w' κ' (aG aB κ' H') res v') a'.defers .returning w':=by
   intro s' κ' a' w' hq hs';rw[hs'.defers];refine leaves_cons (f:=d) (args:=xs) (by simp) (by simp[go_sem,vg hokd]) ?_;refine(hidle xs w' hxs).mono ?_;rintro e u w'' ⟨rfl,rfl,rfl⟩;obtain⟨v,hv1,v',κ'',e1,h1,h2⟩:=ZR hen _ s' κ' a' _ hq hs';exact⟨v,hv1,v',κ'',e1,h1,h2⟩
  rintro e a' w' ⟨s',κ',hq,hs'⟩;cases e with
  |normal=>exact fin2 s' κ' a' w' hq hs'
  |ret=>exact fin2 s' κ' a' w' hq hs'
  |exit id=>exact hq.elim
  |goto l=>exact hq.elim
  |panic c=>exact hq.elim
  |outgrown=>exact hq.elim
 have hd0:a.defers=[]:=hs2.defers
 grind
end
section
open Go
theorem Wh{P:Program}{fn:Func}{H:List AObj}{T:List TV}{hJ:List TObj}{κ:aK}{aB:cZ}{w:World}(hen:Entry κ aB H w)(hJl:H.length≤hJ.length)(ds:List Deferred){s:ASt}{κf:aK}{a:Act}{w':World}
  (hq:uX P fn.results.toList H.length T hJ s.tmps s.heap) (hs:Sim (bodyC κ aB H w ds) κf s a w'):∃v,(results fn a.tmps).run P w'=.ok v w'∧∃v' κ',Ending.returned v=.returned v'∧Leave κ κ' aB H (aD hJ) w w'∧Rel w' κ' (aG aB κ' (aD hJ)) (av hJ (res1 T)) v':=by
 have hkl:(bodyC κ aB H w ds).k0.length≤H.length:=qBO hen.klen;obtain⟨t1,h1,xs,q1,q2,q3⟩:=hq;obtain⟨κ1,hs1⟩:=q1 _ κf a w' hkl hs;obtain⟨us,u1,u2,u3⟩:=Ci hs1 _ _ q2;have hsX:Sim (bodyC κ aB H w ds) κ1 ⟨xs,h1⟩ {tmps:=us.toArray,defers:=a.defers} w':={hs1 with
  len:=by simp[u1]
  slot:=fun n hn=>by have:=u2 n hn;simpa[qAm,List.getD]using this}
 obtain⟨κ',hs2⟩:=q3 _ κ1 _ w' hkl hsX;have hleave:Leave κ κ' aB H (aD hJ) w w':=by
  refine⟨hs2.klen,by simp only[aD,qAj];exact hJl,hs2.kext,hs2.resv,hs2.obj,?_,hs2.apart,hs2.bound,fun b hb hnl=>hs2.old b ⟨hb,hnl⟩,hs2.evo,hs2.pvsub,hs2.os,hs2.tape,hs2.output⟩;intro l b h1 h2;have hno:=hs2.own l b h1 h2;by_cases hlt:b<w.heap.size
  ·right;apply qAl;intro hne;exact hno ⟨hlt,fun l0 h0 hlv=>hne ⟨l0,h0,hlv⟩⟩
  grind
 have hT:us.length=(aQ hJ T).length:=by have:=hs2.len;simpa using this
 have hslot:∀n,n<(aQ hJ T).length→Rel w' κ' (aG aB κ' (aD hJ)) ((aQ hJ T).getD n .unk) (us.getD n undef):=fun n hn=>by
  have:Rel w' κ' (aG aB κ' (aD hJ)) ((aQ hJ T).getD n .unk) (us.toArray.getD n undef):=hs2.slot n hn
  simp_all
 have hm:(fn.results.mapM (Kw a.tmps)).run P w'=.ok us.toArray w':=by
  rw[qBK]
  simp_all
 rw[Fu];simp only[Sem.run_bind,hm];by_cases h1:us.length=1
 ·match us,h1 with
  |[u],_=>
   match T,hT with
   |[x],_=>
    refine⟨u,by simp,u,κ',rfl,hleave,?_⟩;have:=hslot 0 (by simp[aQ]);simpa[aQ,res1]using this
 ·refine⟨.tuple us.toArray,by simp[h1],_,κ',rfl,hleave,?_⟩;have hx:av hJ (res1 T)=.tup (aQ hJ T):=by
   match T,hT with
   |[],_=>rfl
   |[x],h=>exact(h1 (by simpa[aQ]using h)).elim
   |_::_::_,_=>rfl
  rw[hx];exact .tup hT hslot
def nrm(m:Nat)(T:List AV)(H:List AObj):QT:=fun e t h=>e=.normal∧Le m t h T H
theorem aqP{P:Program}{te:Nat}{θ:Nat→Option ET}{n:Nat}{hs:List (Nat×Hn)}{E:List Ent}{m:Nat}{h0:List TObj}{c:Code}{p:Nat}{s:DS}{τ:Nat→TI}{γ:Type}{f:DS→γ}{y:γ}(hτ:τ=TI.of P)(hE:∀e∈E,aj P te e)(hte:nI P te=true)(hmix:P.follows .mixedOrders=true)(hst:St m h0 s)
  (h:exe ⟨τ,θ,n,Unit,hs,m,te,fun _ _=>none⟩ E (fun _=>none) c γ p s (fun _=>none) (fun e s=>match e with| .normal=>some (f s)|_=>none)=some y):AW P m c (fun e t h=>e=.normal∧∃s,f s=y∧Le m t h (aQ s.h s.t) (aD s.h)) (aQ s.h s.t) (aD s.h):=by
 subst hτ;refine(KP (n:=n) (hs:=hs) (te:=te) (pn:=fun _ _=>none) (ret:=fun _=>none) (m:=m) (h0:=h0) hE hte hmix c _ p s _ _ y hst h).mono fun e t hh ho=>?_;cases ho with
 |ret g1 g2 g3 g4=>cases g3
 |jE g1 g2 g3 g4=>cases g3
 |@go _ s1 _ _ g1 g2 g3 g4=>
  grind
theorem Zv{P:Program}{te:Nat}{θ:Nat→Option ET}{n:Nat}{hs:List (Nat×Hn)}{E:List Ent}{m:Nat}{h0:List TObj}{c:Code}{p:Nat}{s:DS}{τ:Nat→TI}{T:List TV}{H:List TObj}(hτ:τ=TI.of P)(hE:∀e∈E,aj P te e)(hte:nI P te=true)(hmix:P.follows .mixedOrders=true)(hst:St m h0 s)
  (h:exe ⟨τ,θ,n,Unit,hs,m,te,fun _ _=>none⟩ E (fun _=>none) c (List TV×List TObj) p s (fun _=>none) (fun e s=>match e with| .normal=>some (s.t,s.h)|_=>none)=some (T,H)):AW P m c (nrm m (aQ H T) (aD H)) (aQ s.h s.t) (aD s.h):=
 (aqP (f:=fun s=>(s.t,s.h)) hτ hE hte hmix hst h).mono fun e t h ⟨h1,s1,h2,h3⟩=>by
  cases h2;exact⟨h1,h3⟩
theorem Ct{m:Nat}{t:List TV}{h:List TObj}(hm:m≤h.length):St m h ⟨t,h,[],[],[],[],[],[]⟩:=
 ⟨⟨fun i k c h1=>(by cases h1),fun d i j h1=>(by cases h1),fun d x h1=>(by cases h1)⟩,hm,fun l _ _=>.inl rfl⟩
section
variable {P:Program}{f d n:Nat}{b r3:Code}{id:Nat}{o1 o2:Oper}{args:List AV}{H:List AObj}{T:List TV}{hJ:List TObj}{fn:Func}{capO:Array Operand}{TB:List AV}{HB:List AObj}
end
section
variable {P:Program}{f d n:Nat}{b r3:Code}{id:Nat}{o1 o2:Oper}{args:List AV}{H:List AObj}{T:List TV}{hJ:List TObj}{fn:Func}{capO:Array Operand}{TB TP:List AV}{HB HP HP':List AObj}{v:Value}
end
end
section
open Go
theorem AW.adL{P:Program}{m id x y d:Nat}{o1 o2:Oper}{Q:QT}{t:List AV}{h:List AObj}{T T2 e:TypeId}{es:List (List AV)}{tag:Tag}
  (h1:o1.op=.move (.tmp x)) (g1:o1.guard=none) (d1:o1.dst=some y) (h2:o2.op=.binOp .eql T (.tmp y) (.const (.slice none 0 0)) T2) (g2:o2.guard=none) (d2:o2.dst=some d)
  (hT:P.underlying T=some (.slice e)) (hx:t.getD x .unk=.slice es tag) (hy:y<t.length)
  (hq:∀b:Bool,(b=true→es=[])→Q .normal ((t.set y (.slice es tag)).set d (.bool b)) h):AW P m (.region id #[o1,o2] false) Q t h:=by
 intro C κ a w hk hs;refine wp_region_lit (l:=[o1,o2]) ?_;simp only[wpList];have w1:∀f,Region.wanted o1 f=true:=fun f=>by simp[Region.wanted,g1]
 have w2:∀f,Region.wanted o2 f=true:=fun f=>by simp[Region.wanted,g2]
 simp only[w1,if_true];refine .inl ?_;have hop1:og P o1 ⟨t,h⟩ ((⟨t,h⟩:ASt).wr (aA o1.dst (.slice es tag))):=NK (by rw[h1];simp only[au,aS];rw[hx]);refine hop1 C κ a w hs _ _ fun κ' a' w' hs'=>?_;simp only[w2,if_true];refine .inl ?_;rw[d1]at hs';have hv:=hs'.ev (.tmp y);have e1:aS ((⟨t,h⟩:ASt).wr (aA (some y) (.slice es tag))).tmps (.tmp y)=.slice es tag:=by
  show(t.set y (.slice es tag)).getD y .unk=_;exact iJ hy
 rw[e1]at hv;cases hev:a'.eval (.tmp y)with
 |slice ad n cap=>
  rw[hev]at hv;have hrun:(execOp a'.eval o2).run P w'=.ok (.value (.bool ad.isNone)) w':=by
   obtain⟨dst,op,ty,pos,after,guard⟩:=o2;simp only at h2;subst h2;have hc:a'.eval (.const (.slice none 0 0))=.slice none 0 0:=rfl;have heq:(Op.equal T (.slice ad n cap) (.slice none 0 0)).run P w'=.ok ad.isNone w':=by
    have hh:∀dd,(Op.equalIn (dd+1) T (.slice ad n cap) (.slice none 0 0)).run P w'=.ok ad.isNone w':=fun dd=>by cases ad<;>simp[Op.equalIn,run_underlying hT]
    exact hh 9999
   simp[execOp,hev,hc,binOp,eqGuard,heq]
  unfold Oper.wp;rw[hrun];refine⟨(((⟨t,h⟩:ASt).wr (aA (some y) (.slice es tag))).setSlot d (.bool ad.isNone)),κ',hq _ fun hb=>?_,?_⟩
  ·cases hv with
   |slice b off sz u q1 q2 q3 q3' q4 q5 q6 q7=>
    apply qAl;intro hne;rw[q2 hne]at hb;cases hb
  ·rw[d2];exact hs'.put (.bool _)
 |_=>rw[hev]at hv;cases hv
end
section
open Go
theorem acr{P:Program}{o:Oper}{s:ASt}{t k e sz by_:Nat}(ho:o.op=.buildSlice t 0 #[])(he:dS P t=some (e,sz,by_))(hk:bD (obj? s.heap k)=true):og P o s (s.wr (.obj k (.arr sz [])::aA o.dst (.psl k sz 0))):=
 iB fun C κ a w hs=>by
  obtain⟨hut,i,zv',hi,hsz,hby,hzz,hzs⟩:=je he;obtain⟨κ',hsim⟩:=ZY hs hk (es:=[]) (c:=#[]) (e:=e) (cap:=0) (sz:=sz) (fun i hi=>by simp at hi) (by simp) (by simp) (by simp) (fun i j hi=>by simp at hi) o.dst;refine⟨_,κ',_,?_,hsim⟩;have hsize:(sizeOf e).run P w=.ok sz w:=by simp[sizeOf,typeInfo,hi,hsz]
  simp only[execOp,ho,Instr.buildSlice,Sem.run_bind,run_underlying hut,Result.andThen_ok,hsize];rw[Sem.run_ite,if_neg (by omega)];simp[newRow,Instr.fill,show Array.range 0=#[]from rfl]
def ahO(τ:Nat→TI)(k:Nat)(d:Option Tmp)(ρ:Operand→AV)(σ:Nat→AObj)(K:List Nat→List Wr→Prop):Op→Prop
 | .buildSlice t len parts=>match len,parts.toList with
  |0,[]=>eT (τ t).elem fun e=>eP (bD (σ k)) (K [k] (.obj k (.arr e.2.1 [])::aA d (.psl k e.2.1 0))) False
  |_,_=>Js τ k d ρ σ K (.buildSlice t len parts)
 |op=>Js τ k d ρ σ K op
theorem ajs{τ:Nat→TI}{k:Nat}{d:Option Tmp}{ρ:Operand→AV}{σ:Nat→AObj}{K:List Nat→List Wr→Prop}{op:Op}(h:ahO τ k d ρ σ K op):Js τ k d ρ σ K op∨∃t e,op=.buildSlice t 0 #[]∧(τ t).elem=some e∧bD (σ k)=true∧K [k] (.obj k (.arr e.2.1 [])::aA d (.psl k e.2.1 0)):=by
 unfold ahO at h;split at h
 ·rename_i t len parts;split at h
  ·rename_i hp;obtain⟨e,h1,h2⟩:=bH h;rcases aW h2 with⟨h3,h4⟩|⟨_,h4⟩
   ·refine .inr ⟨t,e,?_,h1,h3,h4⟩
    simp_all
   grind
  grind
 grind
def F5(P:Program)(τ:Nat→TI)(ops:List Oper):List Oper→Nat→List Eff→List AV→List AObj→(List Eff→List AV→List AObj→Prop)→Prop
 |[],_,es,t,h,K=>K es.reverse t h
 |o::l,k,es,t,h,K=>grd ops t
   (fun t=>match gu o.op with
    |some (f,args)=>Kv (fun fid caps=>Rm t args.toList fun vs=>fL (vs++caps) fun vs=>ACallU P fid vs o.dst t h k fun k' ro ws=>mV ws t h fun t' h'=>F5 P τ ops l k' (⟨aJ ops.toArray o,ro,ws⟩::es) t' h' K) (aS t f)
    |none=>ahO τ k o.dst (aS t) (obj? h) (fun rd ws=>mV ws t h fun t' h'=>Qz (eu o.op) (F5 P τ ops l k (⟨aJ ops.toArray o,rd,ws⟩::es) t' h' K) (F5 P τ ops l (k+1) (⟨aJ ops.toArray o,rd,ws⟩::es) t' h' K)) o.op)
   (fun t=>mV (aA o.dst (.tup [])) t h fun t' h'=>F5 P τ ops l k (⟨aJ ops.toArray o,[],aA o.dst (.tup [])⟩::es) t' h' K) o.guard
theorem aia{P:Program}{ops:List Oper}:∀(l:List Oper) (k:Nat) (es:List Eff) (t:List AV) (h:List AObj) (K:List Eff→List AV→List AObj→Prop),F5 P (TI.of P) ops l k es t h K→∃es' s',ATr P ops.toArray l es' ⟨t,h⟩ s'∧K (es.reverse++es') s'.tmps s'.heap:=by
 intro l
 induction l with
 |nil=>intro k es t h K hr;exact⟨[],⟨t,h⟩,.nil _,by simpa[F5]using hr⟩
 |cons o l ih=>
  intro k es t h K hr;have fin:∀(e:Eff) (k':Nat),tX P ops.toArray o ⟨t,h⟩ e→(mV e.ws t h fun t' h'=>F5 P (TI.of P) ops l k' (e::es) t' h' K)→∃es' s',ATr P ops.toArray (o::l) es' ⟨t,h⟩ s'∧K (es.reverse++es') s'.tmps s'.heap:=fun e k' he hw=>by
   rw[RU]at hw;obtain⟨es',s',g1,g2⟩:=ih k' (e::es) _ _ K hw;exact⟨e::es',s',.cons he g1,by simpa using g2⟩
  rcases Dk hr with⟨hc,h1⟩|⟨hc,h2⟩
  ·cases hcall:gu o.op with
   |none=>
    rw[hcall]at h1;obtain⟨rd,ws,g1,g2⟩:∃rd ws,tX P ops.toArray o ⟨t,h⟩ ⟨aJ ops.toArray o,rd,ws⟩∧mV ws t h fun t' h'=>Qz (eu o.op) (F5 P (TI.of P) ops l k (⟨aJ ops.toArray o,rd,ws⟩::es) t' h' K) (F5 P (TI.of P) ops l (k+1) (⟨aJ ops.toArray o,rd,ws⟩::es) t' h' K):=by
     rcases ajs h1 with h1|⟨tt,e,ho,he,hk,h1⟩
     ·obtain⟨rd,ws,g1,g2⟩:=IU h1;exact⟨rd,ws,yF (s:=⟨t,h⟩) hc g1,g2⟩
     ·refine⟨_,_,fun s' hs'=>.inl ⟨by rw[nX hs'.rs];exact hc,?_⟩,h1⟩;refine acr ho (e:=e.1) (by_:=e.2.2) he ?_;rw[hs'.ro k (by simp)];exact hk
    have g2:∃k',mV ws t h fun t' h'=>F5 P (TI.of P) ops l k' (⟨aJ ops.toArray o,rd,ws⟩::es) t' h' K:=by
     cases hn:eu o.op with
     |zero=>simp only[hn]at g2;exact⟨_,g2⟩
     |succ m=>simp only[hn]at g2;exact⟨_,g2⟩
    obtain⟨k',g2⟩:=g2;exact fin ⟨aJ ops.toArray o,rd,ws⟩ k' g1 g2
   |some p=>
    rw[hcall]at h1;simp only at h1;unfold Kv at h1;split at h1
    ·rename_i fid caps g1;simp only[Lc,mH]at h1;replace h1:=h1.out;obtain⟨hok,ρ,ks,aargs,H,res,H',g2,g3,g4,g5,g6⟩:=h1;obtain⟨tt,ho⟩:=mP hcall;exact fin _ _ (vL (s:=⟨t,h⟩) hc ho g1 hok g2 g3 g4 g5) g6
    grind
  ·exact fin _ k (u7 (s:=⟨t,h⟩) hc) h2
theorem AW.afV{P:Program}{τ:Nat→TI}{m id:Nat}{l:Array Oper}{dr:Bool}{Q:QT}{t:List AV}{h:List AObj}(hτ:τ=TI.of P)(hm:P.follows .mixedOrders=true)(r:Nat)
  (hr:rep r h fun h'=>NH h 0 fun k=>F5 P τ l.toList l.toList k [] t h' fun es t h=>eP dr (fC l.toList es=true∧Q .normal t h) (Q .normal t h)):AW P m (.region id l dr) Q t h:=by
 subst hτ;unfold rep at hr;simp only[mH,FZ]at hr;obtain⟨es,s',h1,h2⟩:=aia _ _ _ _ _ _ hr;have hl:l=l.toList.toArray:=by simp
 rcases aW h2 with⟨rfl,g1,g2⟩|⟨rfl,g⟩
 ·exact AW.of (bF.drawn (s:=⟨t,h⟩) r hm h1 g1 g2)
 ·exact AW.of (bF.region (s:=⟨t,h⟩) r h1.steps g)
end
section
open Go
theorem AW.aua{P:Program}{m:Nat}{x y:Code}{Q:QT}{t t':List AV}{h h':List AObj}(h1:AW P m x (nrm m t' h') t h)(h2:AW P m y Q t' h'):AW P m (.seq x y) Q t h:=
 AW.seq (h1.mono fun e t h ⟨e1,e2⟩=>by subst e1;exact AW.le e2 h2)
def ahS{R:Type}(f:DS→Option R)(y:R):QT:=fun e t h=>e=.ret∧∃s,St 0 [] s∧f s=some y∧Le 0 t h (aQ s.h s.t) (aD s.h)
theorem Mi{P:Program}{te:Nat}{θ:Nat→Option ET}{n:Nat}{c:Code}{p:Nat}{s:DS}{R:Type}{f:DS→Option R}{y:R}{τ:Nat→TI}(hτ:τ=TI.of P)(hte:nI P te=true)(hmix:P.follows .mixedOrders=true)(hst:St 0 [] s)
  (h:exe ⟨τ,θ,n,R,[],0,te,fun _ _=>none⟩ [] f c R p s some (fun _ _=>none)=some y):AW P 0 c (ahS f y) (aQ s.h s.t) (aD s.h):=by
 subst hτ;refine(KP (n:=n) (hs:=[]) (te:=te) (pn:=fun _ _=>none) (ret:=f) (m:=0) (h0:=[]) (fun e he=>by cases he) hte hmix c _ p s _ _ y hst h).mono fun e t hh ho=>?_;cases ho with
 |ret g1 g2 g3 g4=>cases g4;exact⟨rfl,_,g2,g3,g1⟩
 |jE g1 g2 g3 g4=>cases g3
 |go g1 g2 g3 g4=>cases g4
def cL:Code→Code| .seq a _=>a|c=>c
def cR:Code→Code| .seq _ b=>b|c=>c
noncomputable def bdy(fn:Func):Code:=match fn.body with|some c=>c|none=>.skip
noncomputable def lkS(t:List TV)(h:List TObj):DS:=⟨t,h,[],[],[],[],[],[]⟩
def clT(el:ET)(x:List el.D):List TV:=[.lf (.l el) x,.tup [],.nils,.tup [],.tup [],.tup [],.tup [],.tup []]
def clU(el:ET)(x:List el.D)(b:Bool):List TV:=[.lf (.l el) x,.tup [],.nils,.lf (.l el) x,.lf .b b,.tup [],.tup [],.tup []]
theorem aeb{P:Program}{te:Nat}{θ:Nat→Option ET}{τ:Nat→TI}{n f:Nat}{el:ET}{rs:List Ed}{R:Type}{g:Option (fU (aY [.r 0 (.lf (.l el))])→Bool)}{F:List el.D→Option R}{out:R→fU (aY rs)}{fn:Func}{o1 o2:Oper}{R0 A B:Code}{id:Nat}{T T2 e0:TypeId}
  (inn:fU (aY rs)→Option R) (hτ:τ=TI.of P) (hte:nI P te=true) (hmix:P.follows .mixedOrders=true) (hf:P.funcs[f]? =some fn) (hok:ah P f=true) (hwf:Aj ⟨f,1,[.r 0 (.lf (.l el))],1,rs,R,none,g,F,out⟩=true)
  (hn:fn.ntmps=8) (hnr:1=fn.results.toList.length) (hinn:∀z y,inn z=some y→out y=z)
  (hb:fn.body=some (.seq R0 (.seq (.seq (.region id #[o1,o2] false) (.cond (.tmp 4) A .skip)) B)))
  (h1:o1.op=.move (.tmp 0)) (g1:o1.guard=none) (d1:o1.dst=some 3) (h2:o2.op=.binOp .eql T (.tmp 3) (.const (.slice none 0 0)) T2) (g2:o2.guard=none) (d2:o2.dst=some 4) (hT:P.underlying T=some (.slice e0))
  (q0:∀x:List el.D,exe ⟨τ,θ,n,Unit,[],0,te,fun _ _=>none⟩ [] (fun _=>none) R0 (List TV×List TObj) 1 (lkS (.lf (.l el) x::List.replicate 7 (.tup [])) []) (fun _=>none) (fun e s=>match e with| .normal=>some (s.t,s.h)|_=>none)=some (clT el x,[]))
  (qA:exe ⟨τ,θ,n,R,[],0,te,fun _ _=>none⟩ [] (yB τ 0 fn.results.toList rs inn) A R 3 (lkS (clU el [] true) []) some (fun _ _=>none)=F [])
  (qB:∀x y,F x=some y→AW P 0 B (ahS (yB τ 0 fn.results.toList rs inn) y) (aQ [] (clU el x false)) []):
  aj P te ⟨f,1,[.r 0 (.lf (.l el))],1,rs,R,none,g,F,out⟩:=by
 have hw0:=hwf;unfold Aj at hwf;rw[qAa,qAa]at hwf;obtain⟨⟨_,hwf⟩,_⟩:=hwf;simp only[qAa]at hwf;obtain⟨_,edrs,_,_⟩:=hwf;refine⟨hok,hw0,fun x y hF t h hb1=>?_⟩;obtain⟨rfl,rfl⟩:t=[.lf (.l el) x]∧h=[]:=⟨(congrArg Prod.fst hb1).symm,(congrArg Prod.snd hb1).symm⟩;intro r h' hb2;have fin:∀{e t h},ahS (yB τ 0 fn.results.toList rs inn) y e t h→e=.ret∧uX P fn.results.toList 0 r h' t h:=fun{e t h} ⟨e1,s,s1,s2,s3⟩=>by
  subst hτ;obtain⟨t1,h1,xs,k1,k2,k3⟩:=Z6 (e:=⟨f,1,[.r 0 (.lf (.l el))],1,rs,R,none,g,F,out⟩) (h:=[]) hinn edrs rfl rfl hnr s1 s2 hb2;exact⟨e1,t1,h1,xs,s3.trans k1,k2,k3⟩
 refine aen hf hb (by rw[hn];exact qAf rfl) (qBe _) ?_;rw[hn];have a0:=Zv (h0:=[]) hτ (fun e he=>by cases he) hte hmix (Ct (qAr 0)) (q0 x);refine AW.aua a0 (AW.seq (AW.seq ?_));refine AW.adL (x:=0) (y:=3) (d:=4) (es:=x.map el.enc) (tag:=.shared) h1 g1 d1 h2 g2 d2 hT rfl (qAf rfl) fun b hbe=>?_;refine AW.cond (b:=b) rfl (fun e1=>?_) fun e1=>?_
 ·have hx:x=[]:=List.map_eq_nil_iff.1 (hbe e1);subst hx e1;refine(Mi hτ hte hmix (Ct (qAr 0)) (qA.trans hF)).mono fun e t h q=>?_;obtain⟨e2,k⟩:=fin q;subst e2;exact k
 ·subst e1;refine AW.skip ?_;refine(qB x y hF).mono fun e t h q=>?_;obtain⟨e2,k⟩:=fin q;subst e2;exact k
end
section
open Go Go.Proofs
theorem am2:ah Tryz.prog 171=true:=by kernel_rfl
theorem II(n:Nat)(p0:List (Str×Bool))(r:List Str)(h:jY n p0=some r):
  aR Tryz.prog 171 [.func 231 [.ptr 0 0]] [.box [.mapr 1],.mp (List.map (fun p=>(p.1,(fun(x:Bool)=>.bool x) p.2)) p0)] (.slice (List.map encS r) .shared) [.box [.mapr 1],.mp (List.map (fun p=>(p.1,(fun(x:Bool)=>.bool x) p.2)) p0)]:=by
 unfold jY at h;split at h
 ·rename_i hl;have e:=Option.some.inj h;subst e;have:=Qf [.box [.mapr 1],.mp (List.map (fun p=>(p.1,(fun(x:Bool)=>.bool x) p.2)) p0)] 0 1 _ rfl rfl (by simpa using hl);simpa[qBt,qCx]using this
 ·cases h
end
end Abs
end Go.Proofs.YtbijdmihdagfaaaGreatDoor

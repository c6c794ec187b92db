/-
  Weakenings that leave every object where it is, and short names for what the printed scripts use most. Conditions: none; lemmas over any program.
-/
import Derived.RangeFuncBox
import Derived.RangeFuncNested
import Derived.RangeFuncLeaves
import Derived.Shelf.Abstract
import Derived.WalkKit
import Derived.OwnWalkIn
import Derived.TacticsInMore
import Derived.LoopNIn
import Derived.LoopIn
import Derived.KernelRfl
import Derived.Test.YtbijdmihdagfaaaGreatDoorProg
import Derived.Recover
import Derived.Defers
import Derived.Tactics
import Derived.Tactics2
import Derived.Test.YtbijdmihdagfaaaGreatDoorCSortox89adf1
import Derived.Test.YtbijdmihdagfaaaGreatDoorCRngox40316f
set_option linter.all false
namespace Go.Proofs.YtbijdmihdagfaaaGreatDoor
namespace Abs
section
open Go
section
variable {xs ys:List AV}
end
section
variable {h:List AObj}{L:List (Option Nat)}{xs ys:List AV}{ls:List (Option Nat)}{os:List AObj}{l:Nat}
theorem VWs.u{y:AV}(hv:VWs h L xs ys):VWs h L (.unk::xs) (y::ys):=.cons (.unk _) hv
theorem OWs.t{n:Nat}(e:obj? h l=.tip n)(hv:OWs h L ls os):OWs h L (some l::ls) (.tip n::os):=.old (by rw[e];exact .tip n) hv
theorem OWs.w{o:AObj}(e:bD o=false)(hv:OWs h L ls os):OWs h L (none::ls) (o::os):=.new e hv
end
theorem wk{m:Nat}{t t':List AV}{h h':List AObj}(L:List (Option Nat))(ht:VWs h L t' t)(ho:OWs h L L h')(hL:okL m h.length L h'=true):Le m t h t' h':=.of L (.mk' hL ht ho)
end
section
open Go
def Ctx.rk(C:Ctx)(κ:aK)(s:ASt)(w:World)(D:Nat):Ctx:={C with old:=fun b=>C.old b∨b=D,w0:=w,pvE:=aG C.aB κ s.heap}
theorem Sim.rk{C:Ctx}{κ:aK}{s:ASt}{a:Act}{w:World}(h:Sim C κ s a w){D:Nat}(hD:D<w.heap.size)(hf:∀l,at? κ l≠some D):Sim (C.rk κ s w D) κ s a w where
 defers:=h.defers
 len:=h.len
 slot:=h.slot
 klen:=h.klen
 kext:=h.kext
 resv:=h.resv
 obj:=h.obj
 apart:=h.apart
 own:=fun l b h1 h2 ho=>by
  rcases ho with ho|ho
  ·exact h.own l b h1 h2 ho
  ·exact hf l (by rw[h1,ho])
 bound:=h.bound
 pvold:=fun b o hp=>.inl (h.pvold b o hp)
 oldlt:=fun b hb=>by
  rcases hb with hb|hb
  ·exact qAR (h.oldlt b hb) h.size
  ·rw[hb];exact hD
 old:=fun _ _=>rfl
 os:=rfl
 tape:=rfl
 output:=rfl
 size:=qAr _
 pvsub:=fun _ _ hp _=>hp
 evo:=Evo.refl _ _
theorem Sim.ao0{C:Ctx}{κ:aK}{s:ASt}{a:Act}{w:World}(h:Sim C κ s a w){D:Nat}{κ':aK}{s':ASt}{a':Act}{w':World}(h':Sim (C.rk κ s w D) κ' s' a' w'):Sim C κ' s' a' w'∧w'.heap[D]? =w.heap[D]?∧∀l,at? κ' l=some D→¬live (obj? s'.heap l):=
 ⟨{
   defers:=h'.defers
   len:=h'.len
   slot:=h'.slot
   klen:=h'.klen
   kext:=h'.kext
   resv:=h'.resv
   obj:=h'.obj
   apart:=h'.apart
   own:=fun l b h1 h2 ho=>h'.own l b h1 h2 (.inl ho)
   bound:=h'.bound
   pvold:=h.pvold
   oldlt:=h.oldlt
   old:=fun b hb=>(h'.old b (.inl hb)).trans (h.old b hb)
   os:=h'.os.trans h.os
   tape:=h'.tape.trans h.tape
   output:=h'.output.trans h.output
   size:=qBn h.size h'.size
   pvsub:=fun b o hp hlt=>h.pvsub b o (h'.pvsub b o hp (qAR hlt h.size)) hlt
   evo:=h.evo.trans h'.evo fun x o hp hlt=>h.pvsub x o hp hlt},
  h'.old D (.inr rfl),fun l h1 h2=>h'.own l D h1 h2 (.inr rfl)⟩
def aeI(κ:aK)(aB:cZ)(H:List AObj)(T:List TV)(hJ:List TObj)(w:World)(e:Ending)(w':World):Prop:=∃v' κ',e=Ending.returned v'∧Leave κ κ' aB H (aD hJ) w w'∧Rel w' κ' (aG aB κ' (aD hJ)) (av hJ (res1 T)) v'
section
variable {P:Program}{fn:Func}{κ:aK}{aB:cZ}{w:World}{H H':List AObj}{T:List TV}{hJ:List TObj}{D:Nat}{v:Value}
def CK(D:Nat):List Deferred:=[{target:=.collected D,args:=#[]}]
theorem ac9(hen:Entry κ aB H w)(hJl:H.length≤hJ.length){s:ASt}{κ':aK}{a:Act}{w':World}(hs:Sim (bodyC κ aB H w (CK D)) κ' s a w')(hq:uX P fn.results.toList H.length T hJ s.tmps s.heap)(hD:w'.heap[D]? =some (.deferred (some [])))(hn:w.heap.size≤D)(hl:∀l,at? κ' l=some D→¬live (obj? s.heap l)):
  LeavesInM Fence.wide 3 P fn a.tmps (aeI κ aB H T hJ w) a.defers .returning w':=by
 have hs6:=hs.YR hD (fun h=>qDC _ (qAR h.1 hn)) hl;rw[hs.defers];obtain⟨u,hv1,hv2⟩:=Wh hen hJl _ hq hs6;exact⟨by simp,.inl ⟨_,_,rfl,run_takeDeferred hD,u,hv1,hv2⟩⟩
theorem akU{rest:Code}{s:ASt}{κ2:aK}{a:Act}{w2 W:World}(hen:Entry κ aB H w)(hJl:H.length≤hJ.length)(hs:Sim (bodyC κ aB H w []) κ2 s a w2)(hb:Go.RowKit.Below w2.heap.size w2 W)(hDn:w2.heap.size≤D)(hD:W.heap[D]? =some (.deferred (some [])))
  (hr:AW P H.length rest (aeN P fn.results.toList H.length T hJ) s.tmps s.heap):rest.wp P (bodyPostM Fence.wide 3 P fn (aeI κ aB H T hJ w)) {a with defers:=CK D} W:=by
 have hkl:(bodyC κ aB H w (CK D)).k0.length≤H.length:=qBO hen.klen;have hs3:=(hs.grow hb).Cu (CK D);have hDw:w.heap.size≤D:=qBn hs.size hDn;have hs4:=hs3.rk (D:=D) (qBz.1 hD).1 fun l h=>by have:=hs.bound l D h;omega
 refine wp_mono (hr ((bodyC κ aB H w (CK D)).rk κ2 s W D) κ2 _ W hkl hs4) ?_;have fin:∀(s':ASt) (κ':aK) (a':Act) (w':World),uX P fn.results.toList H.length T hJ s'.tmps s'.heap→Sim ((bodyC κ aB H w (CK D)).rk κ2 s W D) κ' s' a' w'→LeavesInM Fence.wide 3 P fn a'.tmps (aeI κ aB H T hJ w) a'.defers .returning w':=fun s' κ' a' w' hq hs'=>by
  obtain⟨hs5,hDk,hl⟩:=hs3.ao0 hs';exact ac9 hen hJl hs5 hq (hDk.trans hD) hDw hl
 rintro e a' w' ⟨s',κ',hq,hs'⟩;cases e with
 |normal=>exact fin s' κ' a' w' hq hs'
 |ret=>exact fin s' κ' a' w' hq hs'
 |exit id=>exact hq.elim
 |goto l=>exact hq.elim
 |panic c=>exact hq.elim
 |outgrown=>exact hq.elim
theorem amZ{s:ASt}{κ2:aK}{a:Act}{w2 W:World}(hen:Entry κ aB H w)(hJl:H.length≤hJ.length)(hs:Sim (bodyC κ aB H w []) κ2 s a w2)(hb:Go.RowKit.Below w2.heap.size w2 W)(hDn:w2.heap.size≤D)(hD:W.heap[D]? =some (.deferred (some [])))
  (hq:uX P fn.results.toList H.length T hJ s.tmps s.heap):bodyPostM Fence.wide 3 P fn (aeI κ aB H T hJ w) .ret {a with defers:=CK D} W:=
 ac9 hen hJl ((hs.grow hb).Cu (CK D)) hq hD (qBn hs.size hDn) fun l h=>by have:=hs.bound l D h;omega
end
section
variable {P:Program}{te:Nat}{θ:Nat→Option ET}{n:Nat}{hs:List (Nat×Hn)}{E:List Ent}{ps eds:List Ed}{h0:List TObj}{c:Code}{p:Nat}{s:DS}{R:Type}{f:DS→Option R}{τ:Nat→TI}
end
end
section
open Go Go.Proofs Go.RowKit Go.Shelf
attribute [local go_sem] Oper.semAt_some
def cellS(s:List UInt8):Value:=.string ⟨s.toArray⟩
def J5(len:Nat)(k:Nat):List Nat:=(List.range k).map fun j=>len - 1 - j
theorem U6(len:Nat)(k:Nat):J5 len (k+1)=J5 len k++[len - 1 - k]:=by simp[J5,List.range_succ]
theorem WM(len:Nat)(k:Nat):(J5 len k).length=k:=by simp[J5]
set_option maxRecDepth 100000 in
set_option maxHeartbeats 2000000 in
theorem al1(F:Fence)(n:Nat)(h7:F.fn 273)(hro:F.round=none)(hn:1≤n)(l Bs n₀ b off len cap:Nat)(z:Nat→List UInt8)(hreach:len≤140737488355328)(hb:b<n₀)(hBn:Bs<n₀)(J Jx:List Nat→World→Prop)
  (hY:∀pre (x:Nat) W,J pre W→pre.length<len→YieldAt F (n - 1) Tryz.prog l #[.int .i64 (x:Int),cellS (z x)] W fun e W'=>
   (e=.returned (.bool true)∧J (pre++[x]) W'∧Below n₀ W W')∨(e=.returned (.bool false)∧Jx (pre++[x]) W'))
  (W:World) (hBs:W.cell? ⟨Bs,0,none⟩=some (.slice (some ⟨b,off,none⟩) len cap))
  (hc:∀j,j<len→W.cell? ⟨b,off+j,none⟩=some (cellS (z j))) (h0:J [] W):
  CallsIn F n Tryz.prog 273 #[.func (.yield l) #[] #[],.pointer (some ⟨Bs,0,none⟩)] W fun e W'=>(∃v,e=.returned v)∧
   ((∃ys,ys=J5 len len∧J ys W')∨(∃pre,(∃k,k≤len∧pre=J5 len k)∧Jx pre W')):=by
 refine callsIn_of_wp Tryz.func273 rfl h7 ?_ hro;simp only[Tryz.ntmps273,qCU,qAu,qAE,Nat.reduceAdd,Nat.reduceSub,qDy,qDz,List.push_toArray,List.append_toArray,qAz,qAH];have hw1:wrap64 ((len:Int) - 1)=(len:Int) - 1:=by unfold wrap64;omega
 gi_wp2
 gi_loopw [3] (fun i wr=>∃k:Nat,k≤len∧i=.int .i64 ((len:Int) - 1 - k)∧J (J5 len k) wr∧Below n₀ W wr)
  (fun i _=>(intOf i+1).toNat)
 case atStart=>exact⟨0,qBe _,by simp,h0,Below.refl _ _⟩
 case round=>
  obtain⟨k,hk,rfl,hJs,hnx⟩:=hrel;have hBs':=(hnx.cell (p:=⟨Bs,0,none⟩) hBn).trans hBs;by_cases hlt:k<len
  ·obtain⟨fn,tmps,assign,body,hy,hR⟩:=hY _ (len - 1 - k) wr hJs (by rw[WM];exact hlt);obtain⟨i,hi⟩:∃i,i=len - 1 - k:=⟨_,rfl⟩;have hi1:(len:Int) - 1 - k=(i:Int):=by omega
   rw[←hi]at hy hR;rw[hi1];have c1:=(hnx.cell (p:=⟨b,off+i,none⟩) hb).trans (hc i (by omega));have hil:i<len:=by omega
   have hi2:i+k+1=len:=by omega
   clear hi hi1
   gi_wp2
   refine hR.mono ?_;have hi3:i=len - 1 - k:=by omega
   rintro e W3 (⟨rfl,hJ3,hk3⟩|⟨rfl,hJx3⟩)
   ·gi_wp2
    go_roundw
    case rel=>exact⟨k+1,by omega,by congr 1;omega,by rw[U6,←hi3];exact hJ3,hnx.trans hk3⟩
    case measure=>simp[intOf];omega
   ·gi_wp2
    refine bodyPost_ret (results_none rfl _ _ _) rfl ?_;exact⟨⟨_,rfl⟩,.inr ⟨_,⟨k+1,by omega,by rw[U6,←hi3]⟩,hJx3⟩⟩
  ·obtain rfl:k=len:=by omega
   have hi1:(k:Int) - 1 - k= -1:=by omega
   rw[hi1]
   gi_wp2
   go_end0
   exact⟨⟨_,rfl⟩,.inl ⟨_,rfl,hJs⟩⟩
set_option maxRecDepth 100000 in
set_option maxHeartbeats 1000000 in
theorem acU(F:Fence)(n:Nat)(h7:F.fn 273)(hro:F.round=none)(l Bs:Nat)(ad:Option Addr)(cap:Nat)(J:World→Prop)(W:World)(hBs:W.cell? ⟨Bs,0,none⟩=some (.slice ad 0 cap))(h0:J W):
  CallsIn F n Tryz.prog 273 #[.func (.yield l) #[] #[],.pointer (some ⟨Bs,0,none⟩)] W fun e W'=>(∃v,e=.returned v)∧J W':=by
 refine callsIn_of_wp Tryz.func273 rfl h7 ?_ hro;simp only[Tryz.ntmps273,qCU,qAu,qAE,Nat.reduceAdd,Nat.reduceSub,qDy,qDz,List.push_toArray,List.append_toArray,qAz,qAH]
 gi_wp2
 gi_loopw [3] (fun i wr=>i=.int .i64 (-1)∧J wr) (fun _ _=>0)
 case atStart=>exact⟨by rfl,h0⟩
 case round=>
  obtain⟨rfl,hJs⟩:=hrel
  gi_wp2
  go_end0
  exact⟨⟨_,rfl⟩,hJs⟩
theorem aq6(l:Array Value)(h:l.size=15):∃f:Nat→Value,l=((List.range 15).map f).toArray:=by
 refine⟨fun i=>l.getD i undef,?_⟩;apply Array.ext
 ·simp[h]
 simp_all
theorem ZA{B:Nat}{A W:World}(h:Below B A W)(a:Addr)(v:Value)(ha:a.block<B):Below B (A.setCell a v) (W.setCell a v):=
 ⟨h.os,h.tape,h.output,by simpa[World.setCell]using h.size,fun k hk=>by
  by_cases e:k=a.block
  ·subst e;simp only[World.setCell,qBU,h.block _ hk]
  ·rw[Below.heap_setCell _ _ _ _ e,Below.heap_setCell _ _ _ _ e,h.block k hk]⟩
def adi:Code:=(Code.region 2 #[{dst:=some 5,op:=.assign (.tmp 9),type:=3,pos:= "term.go:396",after:=#[],guard:=none}] false).seq
 (.region 3 #[{dst:=some 6,op:=.assign (.tmp 10),type:=9,pos:= "term.go:396",after:=#[],guard:=none}] false)
def agZ:Code:=.block 1 ((Code.region 4 #[{dst:=some 11,op:=.move (.tmp 6),type:=9,pos:= "term.go:397",after:=#[],guard:=none},{dst:=some 12,op:=.load 9 (.tmp 3),type:=9,pos:= "term.go:397",after:=#[],guard:=none},{dst:=some 13,op:=.binOp .eql 9 (.tmp 11) (.tmp 12) 9,type:=4,pos:= "term.go:397",after:=#[{on:=0,ground:=.data},{on:=1,ground:=.data}],guard:=none}] false).seq
 (.cond (.tmp 13) ((Code.region 5 #[{dst:=some 14,op:=.move (.tmp 5),type:=3,pos:= "term.go:398",after:=#[],guard:=none},{dst:=none,op:=.store 3 (.tmp 4) (.tmp 14),type:=0,pos:= "term.go:398",after:=#[{on:=0,ground:=.data},{on:=0,ground:=.phase}],guard:=none}] false).seq .ret) .skip))
section
variable (f:Nat→Value)(z:Nat→List UInt8)(name:List UInt8)(b3 b4 len:Nat)(w:World)
def Iz(pre:List Nat)(W:World):Prop:=(∀j∈pre,z j≠name)∧Below w.heap.size w W
def Ixz(c:Code)(pre:List Nat)(W:World):Prop:=c=.ret∧∃p j,pre=p++[j]∧z j=name∧(∀i∈p,z i≠name)∧Below w.heap.size (w.setCell ⟨b4,0,none⟩ (.int .i64 (j:Int))) W
def tm5(x:Nat):Array Value:=(((((List.range 15).map f).toArray.setIfInBounds 9 (.int .i64 (x:Int))).setIfInBounds 10 (cellS (z x))).setIfInBounds 5 (.int .i64 (x:Int))).setIfInBounds 6 (cellS (z x))
def Axz(x:Nat)(a':Act)(_:World):Prop:=a'={tmps:=tm5 f z x,defers:=[]}
set_option maxRecDepth 100000 in
set_option maxHeartbeats 4000000 in
theorem al3(F:Fence)(l n:Nat)(x:Nat)(W:World)(K:Act→World→Prop)
  (hK:∀a' W',KeepsFrom w.heap.size W W'→Below w.heap.size W W'→Axz f z x a' W'→K a' W'):
  adi.wpIn (F.inRound l) n Tryz.prog (Exit.then K (fun _ _ _=>False)) {tmps:=(((List.range 15).map f).toArray.setIfInBounds 9 (.int .i64 (x:Int))).setIfInBounds 10 (cellS (z x)),defers:=[]} W:=by
 unfold adi;simp only[List.range,List.range.loop,List.map]
 gi_wp2
 exact hK _ _ (KeepsFrom.refl _ _) (Below.refl _ _) rfl
set_option maxRecDepth 100000 in
set_option maxHeartbeats 4000000 in
theorem aoa(F:Fence)(l n:Nat)(pre:List Nat)(x:Nat)(a':Act)(W:World){c4:Array Value}{ty:TypeId}(h3:f 3=.pointer (some ⟨b3,0,none⟩))(h4:f 4=.pointer (some ⟨b4,0,none⟩))
  (hb3:b3<w.heap.size) (hb4:b4<w.heap.size) (hc3:w.cell? ⟨b3,0,none⟩=some (.string ⟨name.toArray⟩)) (hc4:w.heap[b4]? =some (.cells c4 ty (0,0))) (hs4:c4.size=1) (hI:Iz z name w pre W) (hA:Axz f z x a' W):
  agZ.wpIn (F.inRound l) n Tryz.prog (ownPostG w.heap.size (Below w.heap.size) (Iz z name w) (Ixz z name b4 w) (pre++[x]) W) a' W:=by
 have hA:a'=_:=hA;subst hA;obtain⟨hI1,hW⟩:=hI;have hc3':W.cell? ⟨b3,0,none⟩=some (.string ⟨name.toArray⟩):=(hW.cell (p:=⟨b3,0,none⟩) hb3).trans hc3;have hc4':W.heap[b4]? =some (.cells c4 ty (0,0)):=(hW.block b4 hb4).trans hc4;have e0:W.cell? ⟨b4,0,none⟩=some (c4.getD 0 undef)∧W.frozen? ⟨b4,0,none⟩=false:=by
  constructor
  ·simp[World.cell?,hc4',Array.getD,show 0<c4.size by omega]
  ·simp[World.frozen?,hc4']
 unfold agZ tm5 cellS;simp only[List.range,List.range.loop,List.map];rw[h3,h4];by_cases hn:z x=name
 ·have hn':(z x==name)=true:=by simpa using hn
  gi_wp2
  refine⟨(KeepsOthers.setCell _ _ _).from _,rfl,pre,x,rfl,hn,hI1,?_⟩;exact ZA hW _ _ hb4
 ·have hn':(z x==name)=false:=by simpa using hn
  gi_wp2
  refine⟨KeepsFrom.refl _ _,Below.refl _ _,fun j hj=>?_,hW⟩;rcases qAA.1 hj with h|h
  ·exact hI1 j h
  ·rw[qBd.1 h];exact hn
end
section
variable (z:Nat→List UInt8)(name:List UInt8)(len cap b off:Nat)(ad:Option Addr)
theorem aqW(F:Fence)(n:Nat)(h7:F.fn 273)(hro:F.round=none)(hn:1≤n)(bk:Nat)(w:World)(hreach:len≤140737488355328)(hbk:bk<w.heap.size)(hb:b<w.heap.size∨len=0)(had:len=0∨ad=some ⟨b,off,none⟩)(hck:w.cell? ⟨bk,0,none⟩=some (.slice ad len cap))
  (hc:∀j,j<len→w.cell? ⟨b,off+j,none⟩=some (cellS (z j))):
  SeqStopsK F n Tryz.prog 273 #[.pointer (some ⟨bk,0,none⟩)] (fun x:Nat=>#[Value.int .i64 (x:Int),cellS (z x)]) (Below w.heap.size) (fun xs=>xs=J5 len len) (fun pre=>∃k,k≤len∧pre=J5 len k) len w:=fun l J Jx W hW _ _ hY h0=>by
 have hck':=(hW.cell (p:=⟨bk,0,none⟩) hbk).trans hck;rcases qCQ len with h|h
 ·subst h;exact(acU F n h7 hro l bk ad cap (J []) W hck' h0).mono fun e W' ⟨he,hj⟩=>⟨he,.inl ⟨_,rfl,hj⟩⟩
 ·have hb':=hb.resolve_right (by omega);obtain rfl:=had.resolve_left (by omega);refine(al1 F n h7 hro hn l bk w.heap.size b off len cap z hreach hb' hbk J Jx hY W hck' (fun j hj=>(hW.cell (p:=⟨b,off+j,none⟩) hb').trans (hc j hj)) h0).mono ?_;rintro e W' ⟨he,⟨ys,rfl,hj⟩|⟨pre,⟨k,hk,rfl⟩,hj⟩⟩
  ·exact⟨he,.inl ⟨_,rfl,hj⟩⟩
  ·exact⟨he,.inr ⟨_,⟨k,hk,rfl⟩,hj⟩⟩
theorem alA{len k:Nat}{p:List Nat}{j:Nat}(hk:k≤len)(h:J5 len k=p++[j]):j<len∧∀i,j<i→i<len→i∈p:=by
 have hl:k=p.length+1:=by have:=congrArg List.length h;rw[WM]at this;simpa using this
 subst hl;rw[U6]at h;obtain⟨h1,h2⟩:=List.append_inj' h rfl;cases h2;refine⟨by omega,fun i h3 h4=>?_⟩;rw[←h1];exact qBk.2 ⟨len - 1 - i,qBZ.2 (by omega),by omega⟩
theorem anG{len:Nat}(i:Nat)(h:i<len):i∈J5 len len:=qBk.2 ⟨len - 1 - i,qBZ.2 (by omega),by omega⟩
theorem ap4{Q:Exit→Act→World→Prop}{a:Act}{w:World}{bk b3 b4:Nat}{c4:Array Value}{ty:TypeId}(ha:a.tmps.size=15)(h16:a.tmps.getD 8 undef=.func (.func 273) #[] #[.pointer (some ⟨bk,0,none⟩)])
  (h3:a.tmps.getD 3 undef=.pointer (some ⟨b3,0,none⟩)) (h4:a.tmps.getD 4 undef=.pointer (some ⟨b4,0,none⟩))
  (hb3:b3<w.heap.size) (hb4:b4<w.heap.size) (hc3:w.cell? ⟨b3,0,none⟩=some (.string ⟨name.toArray⟩)) (hc4:w.heap[b4]? =some (.cells c4 ty (0,0))) (hs4:c4.size=1)
  (hreach:len≤140737488355328) (hbk:bk<w.heap.size) (hb:b<w.heap.size∨len=0) (had:len=0∨ad=some ⟨b,off,none⟩) (hck:w.cell? ⟨bk,0,none⟩=some (.slice ad len cap))
  (hc:∀j,j<len→w.cell? ⟨b,off+j,none⟩=some (cellS (z j)))
  (hdone:(∀j,j<len→z j≠name)→∀D W,w.heap.size≤D→Below w.heap.size w W→W.heap[D]? =some (.deferred (some []))→Q .normal {a with defers:={target:=.collected D,args:=#[]}::a.defers} W)
  (hstop:∀j,j<len→z j=name→(∀i,j<i→i<len→z i≠name)→∀D W,w.heap.size≤D→Below w.heap.size (w.setCell ⟨b4,0,none⟩ (.int .i64 (j:Int))) W→W.heap[D]? =some (.deferred (some []))→Q .ret {a with defers:={target:=.collected D,args:=#[]}::a.defers} W):
  (Code.rangeFunc (.tmp 8) #[9,10] adi agZ).wpIn Fence.wide 3 Tryz.prog Q a w:=by
 obtain⟨tm,ds⟩:=a;obtain⟨f,hf⟩:=aq6 tm ha;subst hf;have f16:f 8=.func (.func 273) #[] #[.pointer (some ⟨bk,0,none⟩)]:=by simpa[Array.getD]using h16
 have f3:f 3=.pointer (some ⟨b3,0,none⟩):=by simpa[Array.getD]using h3
 have f4:f 4=.pointer (some ⟨b4,0,none⟩):=by simpa[Array.getD]using h4
 refine wpIn_rangeFunc_ownH (α:=Nat) (F:=Fence.wide) (gf:=273) (lb:=#[.pointer (some ⟨bk,0,none⟩)]) (encs:=fun x:Nat=>#[Value.int .i64 (x:Int),cellS (z x)]) (Kp:=Below w.heap.size) (S:=fun xs=>xs=J5 len len) (Sp:=fun pre=>∃k,k≤len∧pre=J5 len k) (N:=len) (w0:=w)
  rfl (by omega) (by simpa[Act.eval,Array.getD]using f16) trivial (enters_of Tryz.func273 (by kernel_rfl) rfl) (aqW z len cap b off ad Fence.wide 2 trivial rfl (by omega) bk w hreach hbk hb had hck hc) belowK_t (belowK_b (qAr _)) (Below.refl _ _) (fun _=>rfl)
  (Iz z name w) (Ixz z name b4 w) ?_ ?_ ⟨fun j hj=>(by cases hj),Below.refl _ _⟩ (Axz f z) ?_ ?_ ?_ ?_ ?_
 ·exact fun s X Y row hs hg hr=>⟨hs.1,ownFrom_below (qAr _) (qAr _) s X Y row hs.2 hg hr⟩
 ·rintro c s X Y row ⟨e,p,j,e2,e3,e4,hs⟩ hg hr;exact⟨e,p,j,e2,e3,e4,hs.grown hg (by have:=hs.size;simp only[World.size_setCell]at this;exact this) fun k hk=>(hr k hk).1⟩
 ·exact fun x a' s X Y row h _ _=>h
 ·intro l pre x W K hi hK;have h:=al3 f z w Fence.wide l 1 x W K fun a' W' h1 h2 h3=>hK a' W' h1 h2 ⟨hi.1,hi.2.trans h2⟩ h3;refine(congrArg (fun t=>Code.wpIn (Fence.wide.inRound l) 1 Tryz.prog adi (Exit.then K fun _ _ _=>False) ⟨t,[]⟩ W) ?_).mpr h;simp
 ·intro l pre x a' W _ _ hi hx _;exact aoa f z name b3 b4 w Fence.wide l 1 pre x a' W f3 f4 hb3 hb4 hc3 hc4 hs4 hi hx
 ·rintro D xs W hD rfl hi hk;exact hdone (fun j hj=>hi.1 j (anG j hj)) D W hD hi.2 hk
 ·rintro D c pre W hD ⟨k,hk,rfl⟩ ⟨rfl,p,j,e2,e3,e4,hs⟩ hkD;obtain⟨h1,h2⟩:=alA hk e2;exact wpIn_ret (hstop j h1 e3 (fun i hi1 hi2=>e4 i (h2 i hi1 hi2)) D W hD hs hkD)
end
end
section
open Go Go.Proofs
set_option maxRecDepth 100000
def ahZ(_:Nat):Ent:=⟨192,1,[.r 0 .Ls],1,[.r 0 (.func 273 [.ptr 0 0]),.w (.box [.Ls])],List Str,none,none,fun x=>some x,fun r=>r⟩
theorem aqt(n:Nat):aj Tryz.prog TE (ahZ n):=mk n [] (e:=ahZ n) (inn:=some) .n @Tryz.func192 (by kernel_rfl) sm fun _=>by kernel_rfl
theorem anL:ah Tryz.prog 116=true:=by kernel_rfl
section
variable (n:Nat)(name:Str)(l:List Str)
def lt0:List TV:=.lf (.l .s) l:: .lf .s name::List.replicate 13 (.tup [])
def ltA:List TV:=.lf (.l .s) l:: .lf .s name:: .tup []:: .ptr 0 0:: .ptr 1 0::List.replicate 10 (.tup [])
def lhA:List TObj:=[.box [.lf .s name],.box [.lf (.n .i64) 0]]
def Ue:List TV:=.lf (.l .s) l:: .lf .s name:: .tup []:: .ptr 0 0:: .ptr 1 0:: .tup []:: .tup []:: .lf (.l .s) l:: .func 273 [.ptr 2 0]::List.replicate 6 (.tup [])
def lhB:List TObj:=[.box [.lf .s name],.box [.lf (.n .i64) 0],.box [.lf (.l .s) l]]
def lhC(v:Int):List TObj:=[.box [.lf .s name],.box [.lf (.n .i64) v],.box [.lf (.l .s) l]]
noncomputable def Nu:Code:=bdy Tryz.f116
theorem lqA:exe ⟨τ,θ,n,Unit,[],0,TE,fun _ _=>none⟩ [] (fun _=>none) (cL Nu) (List TV×List TObj) 2 (lkS (lt0 name l) []) (fun _=>none) (fun e s=>match e with| .normal=>some (s.t,s.h)|_=>none)=some (ltA name l,lhA name):=by kernel_rfl
theorem lqB:exe ⟨τ,θ,n,Unit,[],0,TE,fun _ _=>none⟩ [ahZ n] (fun _=>none) (cL (cL (cR Nu))) (List TV×List TObj) 12 (lkS (ltA name l) (lhA name)) (fun _=>none) (fun e s=>match e with| .normal=>some (s.t,s.h)|_=>none)=some (Ue name l,lhB name l):=by kernel_rfl
theorem lqI:exe ⟨τ,θ,n,Int,[],0,TE,fun _ _=>none⟩ [] (yB τ 0 Tryz.f116.results.toList (tQ n).rs some) (cR (cR Nu)) Int 7 (lkS (Ue name l) (lhB name l)) some (fun _ _=>none)=some (-1):=by kernel_rfl
theorem lqC(v:Int):yB τ 0 Tryz.f116.results.toList (tQ n).rs some ⟨Ue name l,lhC name l v,[],[],[],[],[],[]⟩=some v:=by kernel_rfl
end
theorem aj9{w:World}{κ:aK}{pv:cZ}{l:List Str}{tag:Tag}{v:Value}(h:Rel w κ pv (.slice (l.map encS) tag) v):
  ∃ad cap b off,v=.slice ad l.length cap∧(b<w.heap.size∨l.length=0)∧(l.length=0∨ad=some ⟨b,off,none⟩)∧∀j (hj:j<l.length),w.cell? ⟨b,off+j,none⟩=some (cellS l[j]):=by
 cases h with
 |@slice _ _ a cap b off sz u h1 h2 h3 h3' h4 h5 h6 ht=>
  simp only[qAj]at *;have hs:∀j,(hj:j<l.length)→(l.map encS).getD j []=[.str l[j]]:=fun j hj=>by simp[List.getD,qAD,qAd hj,encS]
  have hcell:∀j (hj:j<l.length),w.cell? ⟨b,off+j,none⟩=some (cellS l[j]):=fun j hj=>by
   have z1:sz=1:=by have:=h1 j hj;rw[hs j hj]at this;exact this.symm
   subst z1;have c:=h5 j 0 hj (by omega);have r:=h6 j 0 hj (by omega);rw[hs j hj]at r;have r:Rel w κ pv (.str l[j]) (u j 0):=r;obtain⟨e,_⟩:=r.Bl;rw[e]at c;simpa[cellS]using c
  refine⟨a,cap,b,off,rfl,?_,?_,hcell⟩
  ·rcases qCQ l.length with h|h
   ·exact .inr h
   ·exact .inl (lt_of_cell (hcell 0 h))
  ·rcases qCQ l.length with h|h
   ·exact .inl h
   ·exact .inr (h2 (fun e=>by have:=congrArg List.length e;simp only[qAj,qAE]at this;omega))
section
variable (name:Str)(l:List Str)
theorem anW{κ:aK}{aB:cZ}{w:World}{vs:List Value}{R:Ending→World→Prop}(hen:Entry κ aB [] w)(hvl:vs.length=(aQ [] [.lf (.l .s) l,.lf .s name]).length)
  (hr:∀j,j<(aQ [] [.lf (.l .s) l,.lf .s name]).length→Rel w κ (aG aB κ []) ((aQ [] [.lf (.l .s) l,.lf .s name]).getD j .unk) (vs.getD j undef)) (hll:l.length≤100000)
  (hdone:(∀j (hj:j<l.length),l[j]≠name)→∀κ2 a w2 D W,Sim (bodyC κ aB [] w []) κ2 ⟨aQ (lhB name l) (Ue name l),aD (lhB name l)⟩ a w2→Go.RowKit.Below w2.heap.size w2 W→w2.heap.size≤D→W.heap[D]? =some (.deferred (some []))→
   (cR (cR Nu)).wp Tryz.prog (bodyPostM Fence.wide 3 Tryz.prog Tryz.f116 R) {a with defers:=CK D} W)
  (hstop:∀j (hj:j<l.length),l[j]=name→(∀i,j<i→(hi:i<l.length)→l[i]≠name)→∀κ2 a w2 D W,Sim (bodyC κ aB [] w []) κ2 ⟨aQ (lhC name l j) (Ue name l),aD (lhC name l j)⟩ a w2→Go.RowKit.Below w2.heap.size w2 W→w2.heap.size≤D→W.heap[D]? =some (.deferred (some []))→
   bodyPostM Fence.wide 3 Tryz.prog Tryz.f116 R .ret {a with defers:=CK D} W):
  Calls Tryz.prog 116 vs.toArray w R:=by
 have hte:nI Tryz.prog TE=true:=by kernel_rfl
 have hmix:Tryz.prog.follows .mixedOrders=true:=by kernel_rfl
 have hr0:AW Tryz.prog 0 (cL Nu) (nrm 0 (aQ (lhA name) (ltA name l)) (aD (lhA name))) (aQ [] (lt0 name l)) []:=
  Zv rG (fun e he=>by cases he) hte hmix (Ct (h:=[]) (qAr 0)) (lqA 0 name l)
 have hr1:AW Tryz.prog 0 (cL (cL (cR Nu))) (nrm 0 (aQ (lhB name l) (Ue name l)) (aD (lhB name l))) (aQ (lhA name) (ltA name l)) (aD (lhA name)):=
  Zv rG (fun e he=>by rw[qBd.1 he];exact aqt 0) hte hmix (Ct (h:=lhA name) (qBe _)) (lqB 0 name l)
 have hkl:(bodyC κ aB [] w []).k0.length≤0:=qBO hen.klen;refine(callsIn_wide (n:=3)).1 (callsIn_of_wp_marks (fn:=Tryz.f116) (c:=(cL Nu).seq (((cL (cL (cR Nu))).seq (.block 0 (.rangeFunc (.tmp 8) #[9,10] adi agZ))).seq (cR (cR Nu)))) Tryz.func116 rfl trivial (wpIn_wide.2 ?_));have hsim:=Qp (fn:=Tryz.f116) hen hvl hr;refine wp_seq (wp_mono (hr0 _ κ _ w hkl hsim) ?_);rintro e a w1 ⟨s,κ1,⟨rfl,hl⟩,hs1⟩;obtain⟨κ1,hs1⟩:=hl _ κ1 _ _ hkl hs1;refine wp_seq (wp_seq (wp_mono (hr1 _ κ1 _ w1 hkl hs1) ?_));rintro e a w2 ⟨s,κ2,⟨rfl,hl⟩,hs2⟩;obtain⟨κ2,hs2⟩:=hl _ κ2 _ _ hkl hs2;have hlen:a.tmps.size=15:=hs2.len;obtain⟨us,e16,hul,hur⟩:=(show Rel _ _ _ (.func 273 [.ptr 2 0]) _ from hs2.slot 8 (qAf rfl)).BD;obtain⟨b3,e3,k3⟩:=(show Rel _ _ _ (.ptr 0 0) _ from hs2.slot 3 (qAf rfl)).lK;obtain⟨b4,e4,k4⟩:=(show Rel _ _ _ (.ptr 1 0) _ from hs2.slot 4 (qAf rfl)).lK
 match us,hul with
 |[u],_=>
 have h5:=hur 0 (by simp);simp only[List.getD,qAG,qAq]at h5;obtain⟨bk,rfl,k5⟩:=h5.lK;obtain⟨c3,ty3,q3,l3,p3,r3⟩:=hs2.box (cs:=[.str name]) k3 rfl;obtain⟨c4,ty4,q4,l4,p4,r4⟩:=hs2.box (cs:=[.int .i64 0]) k4 rfl;obtain⟨c5,ty5,q5,l5,p5,r5⟩:=hs2.box (cs:=[.slice (l.map encS) .shared]) k5 rfl;have hc3:=p3 0 (by simp);obtain⟨e3',_⟩:=(show Rel _ _ _ (.str name) _ from r3 0 (by simp)).Bl;rw[e3']at hc3;have hc5:=p5 0 (by simp);obtain⟨ad,cap,b,off,ev,hb,had,hz⟩:=aj9 (show Rel _ _ _ (.slice (l.map encS) .shared) _ from r5 0 (by simp));rw[ev]at hc5;have hd0:a.defers=[]:=hs2.defers;obtain⟨tm,dfs⟩:=a;subst hd0;have gz:∀j (hj:j<l.length),l.getD j []=l[j]:=fun j hj=>by simp[List.getD,qAd hj]
 refine wp_block (wpIn_wide.1 (ap4 (fun j=>l.getD j []) name l.length cap b off ad (w:=w2) (bk:=bk) (b3:=b3) (b4:=b4) hlen e16 e3 e4 (hs2.bound 0 b3 k3) (hs2.bound 1 b4 k4) hc3 q4 l4 (by omega) (hs2.bound 2 bk k5) hb had hc5 (fun j hj=>?_) ?_ ?_))
 ·simp only[gz j hj];exact hz j hj
 ·intro hno D W hD hB hk;exact hdone (fun j hj=>by rw[←gz j hj];exact hno j hj) κ2 _ w2 D W hs2 hB hD hk
 ·intro j hj hnm hgt D W hD hB hk;have hsC:Sim (bodyC κ aB [] w []) κ2 ⟨aQ (lhC name l j) (Ue name l),aD (lhC name l j)⟩ _ (w2.setCell ⟨b4,0,none⟩ (.int .i64 (j:Int))):=
   hs2.store (j:=0) (cs:=[.int .i64 0]) k4 rfl (by simp) (.int (by simp only[mE,IntKind.min,IntKind.max,IntKind.signed,IntKind.bits];omega))
  have hsz:(w2.setCell ⟨b4,0,none⟩ (.int .i64 (j:Int))).heap.size=w2.heap.size:=by simp
  exact hstop j hj (by rw[←gz j hj];exact hnm) (fun i h1 h2=>by rw[←gz i h2];exact hgt i h1 h2) κ2 _ _ D W hsC (by rw[hsz];exact hB) (by rw[hsz];exact hD) hk
end
theorem ac6{s:Str}:∀{X:List Str},(∀x∈X,x≠s)→Ju s X=none
 |[],_=>rfl
 |x::X,h=>by
  have h1:(x==s)=false:=by simpa using h x (qBv ..)
  simp only[Ju,h1,cond_false,ac6 fun y hy=>h y (qAk _ hy)];rfl
theorem aje{s:Str}:∀{pre:List Str} {post:List Str},(∀x∈pre,x≠s)→Ju s (pre++s::post)=some pre.length
 |[],_,_=>by simp[Ju]
 |x::pre,post,h=>by
  have h1:(x==s)=false:=by simpa using h x (qBv ..)
  simp only[qAH,Ju,h1,cond_false,aje (post:=post) fun y hy=>h y (qAk _ hy)];rfl
theorem ahT{s:Str}{l:List Str}(h:∀j (hj:j<l.length),l[j]≠s):lastB s l= -1:=by
 unfold lastB;rw[ac6 fun x hx=>by obtain⟨j,hj,rfl⟩:=qCp.1 (List.mem_reverse.1 hx);exact h j hj]
theorem alL{s:Str}{l:List Str}{j:Nat}(hj:j<l.length)(h:l[j]=s)(hg:∀i,j<i→(hi:i<l.length)→l[i]≠s):lastB s l=(j:Int):=by
 have e:l=l.take j++l[j]::l.drop (j+1):=by rw[List.getElem_cons_drop,qCF]
 have er:l.reverse=(l.drop (j+1)).reverse++s::(l.take j).reverse:=by rw[←h];grind
 unfold lastB;rw[er,aje fun x hx=>by
  obtain⟨i,hi,rfl⟩:=qCp.1 (List.mem_reverse.1 hx)
  grind]
 simp only[qBH,qCn];omega
theorem ai2(t:List TV)(h:List TObj):St 0 [] (lkS t h):=⟨(Ct (m:=0) (h:=h) (t:=t) (qBe _)).inv,qBe _,fun l hl=>(by omega)⟩
theorem Ui(n:Nat):aj Tryz.prog TE (tQ n):=by
 refine⟨anL,by kernel_rfl,fun x y hF t h hb=>?_⟩;obtain⟨l,name⟩:=x;obtain⟨rfl,rfl⟩:t=[.lf (.l .s) l,.lf .s name]∧h=[]:=⟨(congrArg Prod.fst hb).symm,(congrArg Prod.snd hb).symm⟩;clear hb;have hF:oN n l name=some y:=hF;unfold oN at hF;have hll:l.length≤100000:=by
  apply qAl;intro hn;rw[decide_eq_false hn]at hF;cases hF
 rw[decide_eq_true hll]at hF;have hy:lastB name l=y:=Option.some.inj hF;have hte:nI Tryz.prog TE=true:=by kernel_rfl
 have hmix:Tryz.prog.follows .mixedOrders=true:=by kernel_rfl
 intro r h' hb2;have ret:=fun(v:Int) (s:DS) (hv:v=y) (hst:St 0 [] s) (hs:yB τ 0 Tryz.f116.results.toList (tQ n).rs some s=some v)=>
  Z6 (h:=[]) (P:=Tryz.prog) (e:=tQ n) (rvs:=Tryz.f116.results.toList) (out:=(tQ n).out) (inn:=some) sm (by kernel_rfl) (h0:=[]) rfl rfl rfl hst (by rw[←rG];exact hs.trans (congrArg some hv)) hb2
 have hjl:(aD ([]:List TObj)).length≤h'.length:=qBe _;intro κ aB w vs hen hvl hr;refine anW (R:=aeI κ aB [] r h' w) name l hen hvl hr hll (fun hn κ2 a w2 D W hs hB hD hk=>?_) fun j hj e1 e2 κ2 a w2 D W hs hB hD hk=>?_
 ·have hv:(-1:Int)=y:=(ahT hn).symm.trans hy;refine akU hen hjl hs hB hD hk ?_;refine(Mi (R:=Int) rG hte hmix (ai2 (Ue name l) (lhB name l)) (lqI n name l)).mono fun e t h q=>?_;obtain⟨e1,s,s1,s2,s3⟩:=q;subst e1;obtain⟨t1,h1,xs,k1,k2,k3⟩:=ret (-1) s hv s1 s2;exact⟨t1,h1,xs,s3.trans k1,k2,k3⟩
 ·have hv:(j:Int)=y:=(alL hj e1 e2).symm.trans hy;exact amZ hen hjl hs hB hD hk (ret j ⟨Ue name l,lhC name l j,[],[],[],[],[],[]⟩ hv (ai2 (Ue name l) (lhC name l j)) (lqC n name l j))
end
section
open Go Go.Proofs
set_option maxRecDepth 100000 in
theorem adI:aR Tryz.prog 103 [.slice [] .nils] [] (.psl 0 1 0) [.arr 1 []]:=by
 refine Ia true Tryz.func103 rfl (by rw[Tryz.ntmps103];exact qAf rfl) fun Q hQ t ht=>?_
 conv at ht=>whnf
 subst ht;refine AW.Ea fun K1 hK1=>?_;refine AW.region rG Gi 0 ?_
 conv=>whnf
 refine hK1 _ _ ?_;refine AW.Ea fun K2 hK2=>?_;refine AW.Ea fun K3 hK3=>?_;refine AW.adL (x:=0) (y:=3) (d:=4) (T:=47) (e:=3) (es:=[]) (tag:=.nils) rfl rfl rfl rfl rfl rfl (by kernel_rfl) rfl (qAf rfl) fun b hb=>?_
 conv=>whnf
 refine hK3 _ _ ?_;refine AW.cond (b:=b) rfl (fun e1=>?_) (fun e1=>?_)
 ·refine AW.Ea fun K4 hK4=>?_;refine AW.region rG Gi 0 ?_
  conv=>whnf
  refine hK4 _ _ ?_;refine AW.ret ?_
  conv=>whnf
  refine hQ _ _ _ (aou (u2 (.psl 0 1 0::(u4 (.unk::[])))) [.arr 1 []] (wk [none] (.u2 (.cons (.nilP _ _) (.u4 (.u .nil)))) (.w rfl .nil) rfl) (Yw rG [0] rfl (.cons rfl .nil) ?_))
  conv=>whnf
  try rfl
 ·refine AW.skip ?_
  conv=>whnf
  refine hK2 _ _ ?_;refine AW.Ea fun K4 hK4=>?_;refine AW.afV rG Gi 2 ?_
  conv=>whnf
  refine agM (l:=([]:List Int)) (l':=([]:List Int)) (ys:=[]) (r:=[]) (f:=encI) rfl (aa3 _) aov ?_
  conv=>whnf
  refine hK4 _ _ ?_;refine AW.ret ?_
  conv=>whnf
  refine hQ _ _ _ (.inl (Yw rG [1] rfl (.cons rfl .nil) ?_))
  conv=>whnf
  try rfl
set_option maxRecDepth 100000 in
theorem ae4(m:Nat)(p0 r:List Int)(h:app 8 ([]:List Int) p0=some r):aR Tryz.prog 103 [.slice (List.map encI p0) (.tip 0 1)] [.tip m] (.psl 1 1 p0.length) [.tip m,.arr 1 (List.map encI p0)]:=by
 refine Ia true Tryz.func103 rfl (by rw[Tryz.ntmps103];exact qAf rfl) fun Q hQ t ht=>?_
 conv at ht=>whnf
 subst ht;have hr:r=p0:=by unfold app at h;split at h<;>simp at h;exact h.symm
 subst hr;refine AW.Ea fun K1 hK1=>?_;refine AW.region rG Gi 0 ?_
 conv=>whnf
 refine hK1 _ _ ?_;refine AW.Ea fun K2 hK2=>?_;refine AW.Ea fun K3 hK3=>?_;refine AW.adL (x:=0) (y:=3) (d:=4) (T:=47) (e:=3) (es:=List.map encI r) (tag:=.tip 0 1) rfl rfl rfl rfl rfl rfl (by kernel_rfl) rfl (qAf rfl) fun b hb=>?_
 conv=>whnf
 refine hK3 _ _ ?_;refine AW.cond (b:=b) rfl (fun e1=>?_) (fun e1=>?_)
 ·have hp:r=[]:=by simpa using hb e1
  subst hp;refine AW.Ea fun K4 hK4=>?_;refine AW.region rG Gi 0 ?_
  conv=>whnf
  refine hK4 _ _ ?_;refine AW.ret ?_
  conv=>whnf
  refine hQ _ _ _ (aou (u2 (.psl 1 1 0::(u4 (.unk::[])))) [.tip m,.arr 1 []] (wk [some 0,none] (.u2 (.cons (.nilP _ _) (.u4 (.u .nil)))) (.t rfl (.w rfl .nil)) rfl) (Yw rG [0,1] rfl (.cons rfl (.cons rfl .nil)) ?_))
  conv=>whnf
  try rfl
 ·refine AW.skip ?_
  conv=>whnf
  refine hK2 _ _ ?_;refine AW.Ea fun K4 hK4=>?_;refine AW.afV rG Gi 2 ?_
  conv=>whnf
  refine agM (l:=([]:List Int)) (l':=([]:List Int)) (ys:=r) (f:=encI) h (aa3 _) aov ?_
  conv=>whnf
  refine hK4 _ _ ?_;refine AW.ret ?_
  conv=>whnf
  refine hQ _ _ _ (.inl (Yw rG [0,2] rfl (.cons rfl (.cons (congrArg (AObj.arr _) (ao9 _ _)) .nil)) ?_))
  conv=>whnf
  try rfl
theorem aip(w:World):Calls Tryz.prog 82 #[.nilIface] w fun e w'=>e=.returned (.int .i64 0)∧w'=w:=by
 go_enter Tryz.func82,Tryz.ntmps82
 go_wp2
 go_ret
 exact⟨rfl,rfl⟩
theorem aoW(xs:Array Value)(w:World)(hx:xs.size=2):CallsD Tryz.prog 81 xs .returning w fun e u' w'=>e=.returned (.tuple #[])∧u'=.returning∧w'=w:=by
 obtain⟨l⟩:=xs
 match l,hx with
 |[x0,x1],_=>
 refine callsD_of_wpS Tryz.func81 rfl fun c₀ cs hu=>?_;apply wpS_seq;apply wpS_region;simp[wpOpsS,go_sem,recoverD,hu,Tryz.ntmps81,Exit.thenS];refine(aip w).mono ?_;rintro e w' ⟨rfl,rfl⟩;refine wpS_of_wp ?_;refine wp_seq ?_;apply wp_region;simp[wpOps,go_sem,Exit.then];refine .inl (.inl ?_);refine wp_cond (t:=false) ?_ ?_
 ·simp[Act.eval,go_sem]
 refine wp_skip ?_;cases c₀
 simp_all [wpOps,go_sem,Exit.inBlock,bodyPostS,results,Tryz.results81]
end
end Abs
end Go.Proofs.YtbijdmihdagfaaaGreatDoor

/-
  A function that defers a closure, by the executor on its parts. Conditions: none; lemmas over any program.
-/
import Derived.Defers
import Derived.Recover
import Derived.RangeFuncBox
import Derived.RangeFuncNested
import Derived.RangeFuncLeaves
import Derived.Shelf.Abstract
import Derived.WalkKit
import Derived.OwnWalkIn
import Derived.TacticsInMore
import Derived.LoopNIn
import Derived.LoopIn
import Derived.KernelRfl
import Derived.Test.YtfmdmcenjfkbhaaGreatDoorProg
import Derived.Tactics
import Derived.Tactics2
import Derived.Test.YtfmdmcenjfkbhaaGreatDoorCEnox85b3f7
import Derived.Test.YtfmdmcenjfkbhaaGreatDoorCRngoxdf1118
set_option linter.all false
namespace Go.Proofs.YtfmdmcenjfkbhaaGreatDoor
namespace Abs
section
open Go
theorem Sim.entry{C:Ctx}{κ:aH}{s:ASt}{a:Act}{w:World}(h:Sim C κ s a w):Entry κ C.ak s.heap w where
 klen:=h.klen
 resv:=h.resv
 obj:=h.obj
 apart:=h.apart
 bound:=h.bound
 pvlt:=fun b o hp=>qAF (h.oldlt b (h.pvold b o hp)) h.size
 pvdis:=fun b o l hp hl hv=>h.own l b hl hv (h.pvold b o hp)
theorem Sim.through{C:Ctx}{κ κ':aH}{s:ASt}{a:Act}{w w':World}{H':List AObj}(h:Sim C κ s a w)(hl:Leave κ κ' C.ak s.heap H' w w'):Sim C κ' ⟨s.tmps,H'⟩ a w' where
 defers:=h.defers
 len:=h.len
 slot:=fun n hn=>(h.slot n hn).mono hl.evo hl.kext hl.pvsub
 klen:=hl.klen
 kext:=h.kext.trans hl.kext
 resv:=hl.resv
 obj:=hl.obj
 apart:=hl.apart
 own:=fun l b h1 h2 ho=>by
  rcases hl.stay l b h1 h2 with h3|⟨l0,h3,h4⟩
  ·have:=h.oldlt b ho;have:=h.size;omega
  ·exact h.own l0 b h3 h4 ho
 bound:=hl.bound
 pvold:=h.pvold
 oldlt:=h.oldlt
 old:=fun b hb=>(hl.kept b (qAF (h.oldlt b hb) h.size) fun l h3 h4=>h.own l b h3 h4 hb).trans (h.old b hb)
 os:=hl.os.trans h.os
 tape:=hl.tape.trans h.tape
 output:=hl.output.trans h.output
 size:=qAW h.size hl.evo.size
 pvsub:=fun b o hp hlt=>h.pvsub b o (hl.pvsub b o hp (qAF hlt h.size)) hlt
 evo:=h.evo.trans hl.evo fun x o hp hlt=>h.pvsub x o hp hlt
theorem Dl{P:Program}{fn:Func}{H:List AObj}{T:List TV}{hJ:List TObj}{κ:aH}{ak:bN}{w:World}(hen:Entry κ ak H w)(hJl:H.length≤hJ.length)(ds:List Deferred){s:ASt}{κf:aH}{a:Act}{w':World}
  (hq:oH P fn.results.toList H.length T hJ s.tmps s.heap) (hs:Sim (bodyC κ ak H w ds) κf s a w'):∃v,(results fn a.tmps).run P w'=.ok v w'∧∃v' κ',Ending.returned v=.returned v'∧Leave κ κ' ak H (au hJ) w w'∧Rel w' κ' (aC ak κ' (au hJ)) (av hJ (res1 T)) v':=by
 have hkl:(bodyC κ ak H w ds).k0.length≤H.length:=qBn hen.klen;obtain⟨t1,h1,xs,q1,q2,q3⟩:=hq;obtain⟨κ1,hs1⟩:=q1 _ κf a w' hkl hs;obtain⟨us,u1,u2,u3⟩:=vW hs1 _ _ q2;have hsX:Sim (bodyC κ ak H w ds) κ1 ⟨xs,h1⟩ {tmps:=us.toArray,defers:=a.defers} w':={hs1 with
  len:=by simp[u1]
  slot:=fun n hn=>by have:=u2 n hn;simpa[qAn,List.getD]using this}
 obtain⟨κ',hs2⟩:=q3 _ κ1 _ w' hkl hsX;have hleave:Leave κ κ' ak H (au hJ) w w':=by
  refine⟨hs2.klen,by simp only[au,qAi];exact hJl,hs2.kext,hs2.resv,hs2.obj,?_,hs2.apart,hs2.bound,fun b hb hnl=>hs2.old b ⟨hb,hnl⟩,hs2.evo,hs2.pvsub,hs2.os,hs2.tape,hs2.output⟩;intro l b h1 h2;have hno:=hs2.own l b h1 h2;by_cases hlt:b<w.heap.size
  ·right;apply qAm;intro hne;exact hno ⟨hlt,fun l0 h0 hlv=>hne ⟨l0,h0,hlv⟩⟩
  grind
 have hT:us.length=(aI hJ T).length:=by have:=hs2.len;simpa using this
 have hslot:∀n,n<(aI hJ T).length→Rel w' κ' (aC ak κ' (au hJ)) ((aI hJ T).getD n .unk) (us.getD n undef):=fun n hn=>by
  have:Rel w' κ' (aC ak κ' (au hJ)) ((aI hJ T).getD n .unk) (us.toArray.getD n undef):=hs2.slot n hn
  simp_all
 have hm:(fn.results.mapM (Bo a.tmps)).run P w'=.ok us.toArray w':=by
  rw[qBD]
  simp_all
 rw[yx];simp only[Sem.run_bind,hm];by_cases h1:us.length=1
 ·match us,h1 with
  |[u],_=>
   match T,hT with
   |[x],_=>
    refine⟨u,by simp,u,κ',rfl,hleave,?_⟩;have:=hslot 0 (by simp[aI]);simpa[aI,res1]using this
 ·refine⟨.tuple us.toArray,by simp[h1],_,κ',rfl,hleave,?_⟩;have hx:av hJ (res1 T)=.tup (aI hJ T):=by
   match T,hT with
   |[],_=>rfl
   |[x],h=>exact(h1 (by simpa[aI]using h)).elim
   |_::_::_,_=>rfl
  rw[hx];exact .tup hT hslot
def Qm(m:Nat)(T:List AV)(H:List AObj):QT:=fun e t h=>e=.normal∧Le m t h T H
theorem VG{P:Program}{te:Nat}{θ:Nat→Option ET}{E:List Ent}{m id:Nat}{l:List Oper}{s s':DS}{v:Int}{τ:Nat→TI}(hτ:τ=TI.of P)(hE:∀e∈E,aF P te e)(hi:Inv s)
  (h:tJ s.h 0 (fun n'=>zO τ θ E (fun _ _ _ _ v s=>some (v,s)) l l n' [] {s with h:=s.h++l9 (mG l)} fun _ _=>none)=some (v,s')):
  AW P m (.region id l.toArray false) (fun e t h=>e=jk (tQ te v)∧t=aI s'.h s'.t∧h=au s'.h) (aI s.h s.t) (au s.h):=by
 subst hτ;rw[DK]at h;have hres:bX {s with h:=s.h++l9 (mG l)}=(bX s).reserve (mG l):=by
  unfold bX ASt.reserve;simp only[Gw,zU]
 rcases MQ hE l _ _ _ _ (show Inv {s with h:=s.h++l9 (mG l)}from⟨hi.up,hi.rl,hi.cp⟩) h with⟨es',res,s1,g1,g2,g3,g4,g5,g6⟩|⟨l1,op,l2,es1,res1,ep,ep',kx,s1,s2,c,g0,g1,g2,g3,ga,gb,g4,g5,gc,g6,g7,gd⟩
 ·cases g2
 ·cases g4;rw[hres]at g1;subst g0;intro C κ a w hk hs;have hX:=g3 _ ⟨rfl,rfl,fun _ _=>rfl,fun _ _=>rfl⟩;rw[←gb]at hX;exact wp_region_lit (xV g1.steps hX.1 hX.2 C _ a w (hs.reserve (mG (l1++op::l2))) fun κ' a' w' hs'=>⟨bX s',κ',⟨rfl,rfl,rfl⟩,hs'⟩)
theorem abw{P:Program}{te:Nat}{θ:Nat→Option ET}{n:Nat}{hs:List (Nat×Hn)}{E:List Ent}{m:Nat}{h0:List TObj}{c:Code}{p:Nat}{s:DS}{τ:Nat→TI}{γ:Type}{f:DS→γ}{y:γ}(hτ:τ=TI.of P)(hE:∀e∈E,aF P te e)(hte:ku P te=true)(hmix:P.follows .mixedOrders=true)(hst:St m h0 s)
  (h:exe ⟨τ,θ,n,Unit,hs,m,te,fun _ _=>none⟩ E (fun _=>none) c γ p s (fun _=>none) (fun e s=>match e with| .normal=>some (f s)|_=>none)=some y):AW P m c (fun e t h=>e=.normal∧∃s,f s=y∧Le m t h (aI s.h s.t) (au s.h)) (aI s.h s.t) (au s.h):=by
 subst hτ;refine(BM (n:=n) (hs:=hs) (te:=te) (pn:=fun _ _=>none) (ret:=fun _=>none) (m:=m) (h0:=h0) hE hte hmix c _ p s _ _ y hst h).mono fun e t hh ho=>?_;cases ho with
 |ret g1 g2 g3 g4=>cases g3
 |jk g1 g2 g3 g4=>cases g3
 |@go _ s1 _ _ g1 g2 g3 g4=>
  grind
theorem Ck{P:Program}{te:Nat}{θ:Nat→Option ET}{n:Nat}{hs:List (Nat×Hn)}{E:List Ent}{m:Nat}{h0:List TObj}{c:Code}{p:Nat}{s:DS}{τ:Nat→TI}{T:List TV}{H:List TObj}(hτ:τ=TI.of P)(hE:∀e∈E,aF P te e)(hte:ku P te=true)(hmix:P.follows .mixedOrders=true)(hst:St m h0 s)
  (h:exe ⟨τ,θ,n,Unit,hs,m,te,fun _ _=>none⟩ E (fun _=>none) c (List TV×List TObj) p s (fun _=>none) (fun e s=>match e with| .normal=>some (s.t,s.h)|_=>none)=some (T,H)):AW P m c (Qm m (aI H T) (au H)) (aI s.h s.t) (au s.h):=
 (abw (f:=fun s=>(s.t,s.h)) hτ hE hte hmix hst h).mono fun e t h ⟨h1,s1,h2,h3⟩=>by
  cases h2;exact⟨h1,h3⟩
theorem qg{m:Nat}{t:List TV}{h:List TObj}(hm:m≤h.length):St m h ⟨t,h,[],[],[],[],[],[]⟩:=
 ⟨⟨fun i k c h1=>(by cases h1),fun d i j h1=>(by cases h1),fun d x h1=>(by cases h1)⟩,hm,fun l _ _=>.inl rfl⟩
theorem UM{P:Program}{te:Nat}{θ:Nat→Option ET}{n:Nat}{hs:List (Nat×Hn)}{E:List Ent}{m:Nat}{h0:List TObj}{c:Code}{p:Nat}{s:DS}{rvs:List ResultVar}{R:Type}{T:List TV}{hJ:List TObj}{f:DS→Option R}{y:R}{τ:Nat→TI}(hτ:τ=TI.of P)(hE:∀e∈E,aF P te e)(hte:ku P te=true)(hmix:P.follows .mixedOrders=true)(hst:St m h0 s)
  (h:exe ⟨τ,θ,n,R,hs,m,te,fun _ _=>none⟩ E f c R p s some (fun e s=>match e with| .normal=>f s|_=>none)=some y) (hf:∀s,St m h0 s→f s=some y→oH P rvs m T hJ (aI s.h s.t) (au s.h)):
  AW P m c (SF P rvs m T hJ) (aI s.h s.t) (au s.h):=by
 subst hτ;have down:∀{t t':List AV} {h h':List AObj},Le m t h t' h'→oH P rvs m T hJ t' h'→oH P rvs m T hJ t h:=fun hl ⟨t1,h1,xs,q1,q2,q3⟩=>⟨t1,h1,xs,hl.trans q1,q2,q3⟩;refine(BM (n:=n) (hs:=hs) (te:=te) (pn:=fun _ _=>none) (ret:=f) (m:=m) (h0:=h0) hE hte hmix c _ p s _ _ y hst h).mono fun e t hh ho=>?_;cases ho with
 |ret g1 g2 g3 g4=>cases g4;exact down g1 (hf _ g2 g3)
 |jk g1 g2 g3 g4=>cases g3
 |go g1 g2 g3 g4=>
  cases e with
  |normal=>exact down g1 (hf _ g2 g4)
  |exit id=>cases g4
  |goto l=>cases g4
  |ret=>cases g4
  |panic c=>cases g4
  |outgrown=>cases g4
def Pre(P:Program)(m:Nat)(c c':Code)(T:List AV)(H:List AObj)(T':List AV)(H':List AObj):Prop:=
 ∀(C:Ctx) (κ:aH) (a:Act) (w:World) Q,C.k0.length≤m→Sim C κ ⟨T,H⟩ a w→(∀κ2 a2 w2,Sim C κ2 ⟨T',H'⟩ a2 w2→c'.wp P Q a2 w2)→c.wp P Q a w
theorem Pre.nil{P:Program}{m:Nat}{c:Code}{T:List AV}{H:List AObj}:Pre P m c c T H T H:=fun _ κ a w _ _ hs h=>h κ a w hs
theorem Pre.cons{P:Program}{m:Nat}{r c c':Code}{T T1 T':List AV}{H H1 H':List AObj}(hr:AW P m r (Qm m T1 H1) T H)(h:Pre P m c c' T1 H1 T' H'):Pre P m (r.seq c) c' T H T' H':=fun C κ a w Q hk hs hq=>by
 refine wp_seq (wp_mono (hr C κ a w hk hs) ?_);rintro e a w1 ⟨s,κ1,⟨rfl,hl⟩,hs1⟩;obtain⟨κ1,hs1⟩:=hl _ κ1 _ _ hk hs1;exact h C κ1 a w1 Q hk hs1 hq
section
variable {P:Program}{f d n:Nat}{b r3:Code}{id:Nat}{o1 o2:Oper}{args:List AV}{H:List AObj}{T:List TV}{hJ:List TObj}{fn:Func}{capO:Array Operand}{TB:List AV}{HB:List AObj}
theorem D9
  (hf:P.funcs[f]? =some fn) (hb:fn.body=some b) (hlen:args.length≤fn.ntmps)
  (h1:o1.op=.makeFunc (.func d) #[] capO) (g1:o1.guard=none) (d1:o1.dst=some n) (h2:o2.op=.defer {callee:=.value (.tmp n),args:=#[],argTypes:=#[]}) (g2:o2.guard=none) (d2:o2.dst=none) (h12:n<TB.length)
  (hp:Pre P H.length b ((Code.region id #[o1,o2] false).seq r3) (args++List.replicate (fn.ntmps - args.length) (.tup [])) H TB HB)
  (hr3:∀(κ:aH) (ak:bN) (w:World),Entry κ ak H w→∀(κ2:aH) (a:Act) (w2:World),Sim (bodyC κ ak H w []) κ2 ⟨TB,HB⟩ a w2→
   ∀D,D=[({target:=.fn (.func d) (capO.map a.eval),args:=#[]}:Deferred)]→∀a',a'=({tmps:=a.tmps.setIfInBounds n (.func (.func d) #[] (capO.map a.eval)),defers:=D}:Act)→Sim (bodyC κ ak H w D) κ2 ⟨TB.set n .unk,HB⟩ a' w2→
   r3.wp P (bodyPostD P fn fun e w'=>∃v' κ',e=Ending.returned v'∧Leave κ κ' ak H (au hJ) w w'∧Rel w' κ' (aC ak κ' (au hJ)) (av hJ (res1 T)) v') a' w2):aP P f args H (av hJ (res1 T)) (au hJ):=by
 intro κ ak w vs hen hvl hr;refine calls_of_wp_defers hf hb ?_;have hkl:(bodyC κ ak H w []).k0.length≤H.length:=qBn hen.klen;have hsim:Sim (bodyC κ ak H w []) κ ⟨args++List.replicate (fn.ntmps - args.length) (.tup []),H⟩ {tmps:=vs.toArray++Array.replicate (fn.ntmps - vs.toArray.size) undef,defers:=[]} w:=Ba hen hvl hr;refine hp _ κ _ w _ hkl hsim fun κ2 a w2 hs2=>?_;refine wp_seq (wp_region ?_);obtain⟨_,_,ty1,ps1,af1,_⟩:=o1;obtain⟨_,_,ty2,ps2,af2,_⟩:=o2;simp only at h1 g1 d1 h2 g2 d2;subst h1 g1 d1 h2 g2 d2;have h12':n<a.tmps.size:=by rw[hs2.len];exact h12
 have hmf:∀(fn:Fn) (first cap:Array Value) (w:World),(Instr.makeFunc fn first cap).run P w=.ok (.func fn first cap) w:=fun _ _ _ _=>rfl;simp only[wpOps,Region.wanted,Array.size,List.range,List.range.loop,qCt,qAl,qAx];simp[hmf,go_sem,h12'];refine .inl ?_;have hd0:a.defers=[]:=hs2.defers;have hs3:=(hs2.ah (some n) (v:=.unk) (u:=.func (.func d) #[] (capO.map a.eval)) (.unk _)).wP [{target:=.fn (.func d) (capO.map a.eval),args:=#[]}];have h:=hr3 κ ak w hen κ2 a w2 hs2 _ rfl _ rfl hs3;rw[hd0];simp[go_sem]at h;exact .inl h
theorem O9
  (hf:P.funcs[f]? =some fn) (hb:fn.body=some b) (hlen:args.length≤fn.ntmps)
  (h1:o1.op=.makeFunc (.func d) #[] capO) (g1:o1.guard=none) (d1:o1.dst=some n) (h2:o2.op=.defer {callee:=.value (.tmp n),args:=#[],argTypes:=#[]}) (g2:o2.guard=none) (d2:o2.dst=none) (h12:n<TB.length) (hokd:gT P d=true)
  (hidle:∀(xs:Array Value) (w:World),xs.size=capO.size→CallsD P d xs .returning w fun e u' w'=>e=.returned (.tuple #[])∧u'=.returning∧w'=w)
  (hp:Pre P H.length b ((Code.region id #[o1,o2] false).seq r3) (args++List.replicate (fn.ntmps - args.length) (.tup [])) H TB HB) (hJl:H.length≤hJ.length)
  (hr3:AW P H.length r3 (SF P fn.results.toList H.length T hJ) (TB.set n .unk) HB):aP P f args H (av hJ (res1 T)) (au hJ):=by
 refine D9 hf hb hlen h1 g1 d1 h2 g2 d2 h12 hp fun κ ak w hen κ2 a w2 hs2 D hD a' ha' hs3=>?_;have hkl:(bodyC κ ak H w D).k0.length≤H.length:=qBn hen.klen;refine wp_mono (hr3 _ κ2 _ w2 hkl hs3) ?_;have fin2:∀(s':ASt) (κ':aH) (a':Act) (w':World),oH P fn.results.toList H.length T hJ s'.tmps s'.heap→Sim (bodyC κ ak H w D) κ' s' a' w'→Leaves P fn a'.tmps (fun e w'=>∃v' κ',e=Ending.returned v'∧Leave κ κ' ak H (au hJ) w w'∧Rel w' κ' (aC ak κ' (au hJ)) (av hJ (res1 T)) v') a'.defers .returning w':=by
  intro s' κ' a' w' hq hs';rw[hs'.defers];rw[hD];refine leaves_cons (f:=d) (args:=capO.map a.eval) (by simp) (by simp[go_sem,pE hokd]) ?_;refine(hidle _ w' (by simp)).mono ?_;rintro e u w'' ⟨rfl,rfl,rfl⟩;obtain⟨v,hv1,v',κ'',e1,h1,h2⟩:=Dl hen hJl D hq hs';exact⟨v,hv1,v',κ'',e1,h1,h2⟩
 rintro e a' w' ⟨s',κ',hq,hs'⟩;cases e with
 |normal=>exact fin2 s' κ' a' w' hq hs'
 |ret=>exact fin2 s' κ' a' w' hq hs'
 |exit id=>exact hq.elim
 |goto l=>exact hq.elim
 |panic c=>exact hq.elim
 |outgrown=>exact hq.elim
end
def NM(P:Program)(d:Nat)(args:List AV)(H:List AObj)(v:Value)(H':List AObj):Prop:=
 ∀(κ:aH) (ak:bN) (w:World) (vs:List Value),Entry κ ak H w→vs.length=args.length→(∀j,j<args.length→Rel w κ (aC ak κ H) (args.getD j .unk) (vs.getD j undef))→
  CallsD P d vs.toArray (.panicking [{v,recovered:=false}]) w fun e u' w'=>e=.returned (.tuple #[])∧settle u'=.returning∧∃κ',Leave κ κ' ak H H' w w'
def Ctx.rt(C:Ctx)(κ:aH)(s:ASt)(w:World):Ctx:={C with w0:=w,k0:=κ,pvE:=aC C.ak κ s.heap}
theorem Sim.rt{C:Ctx}{κ:aH}{s:ASt}{a:Act}{w:World}(h:Sim C κ s a w):Sim (C.rt κ s w) κ s a w where
 defers:=h.defers
 len:=h.len
 slot:=h.slot
 klen:=h.klen
 kext:=bB.refl _
 resv:=h.resv
 obj:=h.obj
 apart:=h.apart
 own:=h.own
 bound:=h.bound
 pvold:=h.pvold
 oldlt:=fun b hb=>qAF (h.oldlt b hb) h.size
 old:=fun _ _=>rfl
 os:=rfl
 tape:=rfl
 output:=rfl
 size:=qAq _
 pvsub:=fun _ _ hp _=>hp
 evo:=Evo.refl _ _
theorem Sim.aiE{C:Ctx}{κ:aH}{s:ASt}{a:Act}{w:World}(h:Sim C κ s a w){κ':aH}{s':ASt}{a':Act}{w':World}(h':Sim (C.rt κ s w) κ' s' a' w'):Sim C κ' s' a' w' where
 defers:=h'.defers
 len:=h'.len
 slot:=h'.slot
 klen:=h'.klen
 kext:=h.kext.trans h'.kext
 resv:=h'.resv
 obj:=h'.obj
 apart:=h'.apart
 own:=h'.own
 bound:=h'.bound
 pvold:=h.pvold
 oldlt:=h.oldlt
 old:=fun b hb=>(h'.old b hb).trans (h.old b hb)
 os:=h'.os.trans h.os
 tape:=h'.tape.trans h.tape
 output:=h'.output.trans h.output
 size:=qAW h.size h'.size
 pvsub:=fun b o hp hlt=>h.pvsub b o (h'.pvsub b o hp (qAF hlt h.size)) hlt
 evo:=h.evo.trans h'.evo fun x o hp hlt=>h.pvsub x o hp hlt
section
variable {P:Program}{f d n:Nat}{b r3:Code}{id:Nat}{o1 o2:Oper}{args:List AV}{H:List AObj}{T:List TV}{hJ:List TObj}{fn:Func}{capO:Array Operand}{TB TP:List AV}{HB HP HP':List AObj}{v:Value}
theorem OZ
  (hf:P.funcs[f]? =some fn) (hb:fn.body=some b) (hlen:args.length≤fn.ntmps)
  (h1:o1.op=.makeFunc (.func d) #[] capO) (g1:o1.guard=none) (d1:o1.dst=some n) (h2:o2.op=.defer {callee:=.value (.tmp n),args:=#[],argTypes:=#[]}) (g2:o2.guard=none) (d2:o2.dst=none) (h12:n<TB.length) (hokd:gT P d=true)
  (hp:Pre P H.length b ((Code.region id #[o1,o2] false).seq r3) (args++List.replicate (fn.ntmps - args.length) (.tup [])) H TB HB) (hJl:H.length≤hJ.length)
  (hr3:AW P HB.length r3 (fun e t h=>e=jk v∧Le HB.length t h TP HP) (TB.set n .unk) HB)
  (hrec:NM P d (capO.toList.map (aN TB)) HP v HP') (hret:oH P fn.results.toList H.length T hJ TP HP'):aP P f args H (av hJ (res1 T)) (au hJ):=by
 refine D9 hf hb hlen h1 g1 d1 h2 g2 d2 h12 hp fun κ ak w hen κ2 a w2 hs2 D hD a' ha' hs3=>?_;have hkl:((bodyC κ ak H w D).rt κ2 ⟨TB.set n .unk,HB⟩ w2).k0.length≤HB.length:=qBn hs3.klen;refine wp_mono (hr3 _ κ2 _ w2 hkl hs3.rt) ?_;rintro e a' w' ⟨s',κ',⟨rfl,hle⟩,hs'⟩;obtain⟨κ',hs'⟩:=hle _ κ' _ _ hkl hs';have hs4:=hs3.aiE hs';show Leaves P fn a'.tmps _ a'.defers _ w';rw[hs4.defers];rw[hD];refine leaves_cons (f:=d) (args:=capO.map a.eval) (by simp) (by simp[go_sem,pE hokd]) ?_;refine CallsD.mono (hrec κ' ak w' (capO.map a.eval).toList hs4.entry (by simp) fun j hj=>?_) ?_
 ·simp at hj;have x1:(capO.toList.map (aN TB)).getD j .unk=aN TB capO.toList[j]:=by
   grind
  have x2:(capO.map a.eval).toList.getD j undef=a.eval capO.toList[j]:=by
   grind
  rw[x1,x2];exact(hs2.ev capO.toList[j]).mono hs'.evo hs'.kext fun b o hb hlt=>hs'.pvsub b o hb hlt
 ·rintro e u w'' ⟨rfl,hu,κr,hlv⟩;show Leaves P fn a'.tmps _ [] (settle u) w'';rw[hu];obtain⟨v',hv1,v'',κ'',e1,h1,h2⟩:=Dl hen hJl D (s:=⟨TP,HP'⟩) hret (hs4.through hlv);exact⟨v',hv1,v'',κ'',e1,h1,h2⟩
end
end
section
open Go
def Ctx.rk(C:Ctx)(κ:aH)(s:ASt)(w:World)(D:Nat):Ctx:={C with old:=fun b=>C.old b∨b=D,w0:=w,pvE:=aC C.ak κ s.heap}
theorem Sim.rk{C:Ctx}{κ:aH}{s:ASt}{a:Act}{w:World}(h:Sim C κ s a w){D:Nat}(hD:D<w.heap.size)(hf:∀l,at? κ l≠some D):Sim (C.rk κ s w D) κ s a w where
 defers:=h.defers
 len:=h.len
 slot:=h.slot
 klen:=h.klen
 kext:=h.kext
 resv:=h.resv
 obj:=h.obj
 apart:=h.apart
 own:=fun l b h1 h2 ho=>by
  rcases ho with ho|ho
  ·exact h.own l b h1 h2 ho
  ·exact hf l (by rw[h1,ho])
 bound:=h.bound
 pvold:=fun b o hp=>.inl (h.pvold b o hp)
 oldlt:=fun b hb=>by
  rcases hb with hb|hb
  ·exact qAF (h.oldlt b hb) h.size
  ·rw[hb];exact hD
 old:=fun _ _=>rfl
 os:=rfl
 tape:=rfl
 output:=rfl
 size:=qAq _
 pvsub:=fun _ _ hp _=>hp
 evo:=Evo.refl _ _
theorem Sim.adI{C:Ctx}{κ:aH}{s:ASt}{a:Act}{w:World}(h:Sim C κ s a w){D:Nat}{κ':aH}{s':ASt}{a':Act}{w':World}(h':Sim (C.rk κ s w D) κ' s' a' w'):Sim C κ' s' a' w'∧w'.heap[D]? =w.heap[D]?∧∀l,at? κ' l=some D→¬live (obj? s'.heap l):=
 ⟨{
   defers:=h'.defers
   len:=h'.len
   slot:=h'.slot
   klen:=h'.klen
   kext:=h'.kext
   resv:=h'.resv
   obj:=h'.obj
   apart:=h'.apart
   own:=fun l b h1 h2 ho=>h'.own l b h1 h2 (.inl ho)
   bound:=h'.bound
   pvold:=h.pvold
   oldlt:=h.oldlt
   old:=fun b hb=>(h'.old b (.inl hb)).trans (h.old b hb)
   os:=h'.os.trans h.os
   tape:=h'.tape.trans h.tape
   output:=h'.output.trans h.output
   size:=qAW h.size h'.size
   pvsub:=fun b o hp hlt=>h.pvsub b o (h'.pvsub b o hp (qAF hlt h.size)) hlt
   evo:=h.evo.trans h'.evo fun x o hp hlt=>h.pvsub x o hp hlt},
  h'.old D (.inr rfl),fun l h1 h2=>h'.own l D h1 h2 (.inr rfl)⟩
def SE(κ:aH)(ak:bN)(H:List AObj)(T:List TV)(hJ:List TObj)(w:World)(e:Ending)(w':World):Prop:=∃v' κ',e=Ending.returned v'∧Leave κ κ' ak H (au hJ) w w'∧Rel w' κ' (aC ak κ' (au hJ)) (av hJ (res1 T)) v'
section
variable {P:Program}{fn:Func}{κ:aH}{ak:bN}{w:World}{H H':List AObj}{T:List TV}{hJ:List TObj}{D:Nat}{v:Value}
def wL(D:Nat):List Deferred:=[{target:=.collected D,args:=#[]}]
theorem Ql(hen:Entry κ ak H w)(hJl:H.length≤hJ.length){s:ASt}{κ':aH}{a:Act}{w':World}(hs:Sim (bodyC κ ak H w (wL D)) κ' s a w')(hq:oH P fn.results.toList H.length T hJ s.tmps s.heap)(hD:w'.heap[D]? =some (.deferred (some [])))(hn:w.heap.size≤D)(hl:∀l,at? κ' l=some D→¬live (obj? s.heap l)):
  LeavesInM Fence.wide 3 P fn a.tmps (SE κ ak H T hJ w) a.defers .returning w':=by
 have hs6:=hs.MW hD (fun h=>qDp _ (qAF h.1 hn)) hl;rw[hs.defers];obtain⟨u,hv1,hv2⟩:=Dl hen hJl _ hq hs6;exact⟨by simp,.inl ⟨_,_,rfl,run_takeDeferred hD,u,hv1,hv2⟩⟩
theorem aay{rest:Code}{s:ASt}{κ2:aH}{a:Act}{w2 W:World}(hen:Entry κ ak H w)(hJl:H.length≤hJ.length)(hs:Sim (bodyC κ ak H w []) κ2 s a w2)(hb:Go.RowKit.Below w2.heap.size w2 W)(hDn:w2.heap.size≤D)(hD:W.heap[D]? =some (.deferred (some [])))
  (hr:AW P H.length rest (SF P fn.results.toList H.length T hJ) s.tmps s.heap):rest.wp P (bodyPostM Fence.wide 3 P fn (SE κ ak H T hJ w)) {a with defers:=wL D} W:=by
 have hkl:(bodyC κ ak H w (wL D)).k0.length≤H.length:=qBn hen.klen;have hs3:=(hs.grow hb).wP (wL D);have hDw:w.heap.size≤D:=qAW hs.size hDn;have hs4:=hs3.rk (D:=D) (qBs.1 hD).1 fun l h=>by have:=hs.bound l D h;omega
 refine wp_mono (hr ((bodyC κ ak H w (wL D)).rk κ2 s W D) κ2 _ W hkl hs4) ?_;have fin:∀(s':ASt) (κ':aH) (a':Act) (w':World),oH P fn.results.toList H.length T hJ s'.tmps s'.heap→Sim ((bodyC κ ak H w (wL D)).rk κ2 s W D) κ' s' a' w'→LeavesInM Fence.wide 3 P fn a'.tmps (SE κ ak H T hJ w) a'.defers .returning w':=fun s' κ' a' w' hq hs'=>by
  obtain⟨hs5,hDk,hl⟩:=hs3.adI hs';exact Ql hen hJl hs5 hq (hDk.trans hD) hDw hl
 rintro e a' w' ⟨s',κ',hq,hs'⟩;cases e with
 |normal=>exact fin s' κ' a' w' hq hs'
 |ret=>exact fin s' κ' a' w' hq hs'
 |exit id=>exact hq.elim
 |goto l=>exact hq.elim
 |panic c=>exact hq.elim
 |outgrown=>exact hq.elim
theorem adl{s:ASt}{κ2:aH}{a:Act}{w2 W:World}(hen:Entry κ ak H w)(hJl:H.length≤hJ.length)(hs:Sim (bodyC κ ak H w []) κ2 s a w2)(hb:Go.RowKit.Below w2.heap.size w2 W)(hDn:w2.heap.size≤D)(hD:W.heap[D]? =some (.deferred (some [])))
  (hq:oH P fn.results.toList H.length T hJ s.tmps s.heap):bodyPostM Fence.wide 3 P fn (SE κ ak H T hJ w) .ret {a with defers:=wL D} W:=
 Ql hen hJl ((hs.grow hb).wP (wL D)) hq hD (qAW hs.size hDn) fun l h=>by have:=hs.bound l D h;omega
end
section
variable {P:Program}{te:Nat}{θ:Nat→Option ET}{n:Nat}{hs:List (Nat×Hn)}{E:List Ent}{ps eds:List Ed}{h0:List TObj}{c:Code}{p:Nat}{s:DS}{R:Type}{f:DS→Option R}{τ:Nat→TI}
end
end
section
open Go
theorem AW.ai7{P:Program}{m:Nat}{x y:Code}{Q:QT}{t t':List AV}{h h':List AObj}(h1:AW P m x (Qm m t' h') t h)(h2:AW P m y Q t' h'):AW P m (.seq x y) Q t h:=
 AW.seq (h1.mono fun e t h ⟨e1,e2⟩=>by subst e1;exact AW.le e2 h2)
def WQ{R:Type}(f:DS→Option R)(y:R):QT:=fun e t h=>e=.ret∧∃s,St 0 [] s∧f s=some y∧Le 0 t h (aI s.h s.t) (au s.h)
theorem G8{P:Program}{te:Nat}{θ:Nat→Option ET}{n:Nat}{c:Code}{p:Nat}{s:DS}{R:Type}{f:DS→Option R}{y:R}{τ:Nat→TI}(hτ:τ=TI.of P)(hte:ku P te=true)(hmix:P.follows .mixedOrders=true)(hst:St 0 [] s)
  (h:exe ⟨τ,θ,n,R,[],0,te,fun _ _=>none⟩ [] f c R p s some (fun _ _=>none)=some y):AW P 0 c (WQ f y) (aI s.h s.t) (au s.h):=by
 subst hτ;refine(BM (n:=n) (hs:=[]) (te:=te) (pn:=fun _ _=>none) (ret:=f) (m:=0) (h0:=[]) (fun e he=>by cases he) hte hmix c _ p s _ _ y hst h).mono fun e t hh ho=>?_;cases ho with
 |ret g1 g2 g3 g4=>cases g4;exact⟨rfl,_,g2,g3,g1⟩
 |jk g1 g2 g3 g4=>cases g3
 |go g1 g2 g3 g4=>cases g4
def cL:Code→Code| .seq a _=>a|c=>c
def cR:Code→Code| .seq _ b=>b|c=>c
noncomputable def Vp(fn:Func):Code:=match fn.body with|some c=>c|none=>.skip
noncomputable def NR(t:List TV)(h:List TObj):DS:=⟨t,h,[],[],[],[],[],[]⟩
def clT(el:ET)(x:List el.D):List TV:=[.lf (.l el) x,.tup [],.nils,.tup [],.tup [],.tup [],.tup [],.tup []]
def Qh(el:ET)(x:List el.D)(b:Bool):List TV:=[.lf (.l el) x,.tup [],.nils,.lf (.l el) x,.lf .b b,.tup [],.tup [],.tup []]
theorem JR{P:Program}{te:Nat}{θ:Nat→Option ET}{τ:Nat→TI}{n f:Nat}{el:ET}{rs:List Ed}{R:Type}{g:Option (eG (aR [.r 0 (.lf (.l el))])→Bool)}{F:List el.D→Option R}{out:R→eG (aR rs)}{fn:Func}{o1 o2:Oper}{R0 A B:Code}{id:Nat}{T T2 e0:TypeId}
  (inn:eG (aR rs)→Option R) (hτ:τ=TI.of P) (hte:ku P te=true) (hmix:P.follows .mixedOrders=true) (hf:P.funcs[f]? =some fn) (hok:gT P f=true) (hwf:sP ⟨f,1,[.r 0 (.lf (.l el))],1,rs,R,none,g,F,out⟩=true)
  (hn:fn.ntmps=8) (hnr:1=fn.results.toList.length) (hinn:∀z y,inn z=some y→out y=z)
  (hb:fn.body=some (.seq R0 (.seq (.seq (.region id #[o1,o2] false) (.cond (.tmp 4) A .skip)) B)))
  (h1:o1.op=.move (.tmp 0)) (g1:o1.guard=none) (d1:o1.dst=some 3) (h2:o2.op=.binOp .eql T (.tmp 3) (.const (.slice none 0 0)) T2) (g2:o2.guard=none) (d2:o2.dst=some 4) (hT:P.underlying T=some (.slice e0))
  (q0:∀x:List el.D,exe ⟨τ,θ,n,Unit,[],0,te,fun _ _=>none⟩ [] (fun _=>none) R0 (List TV×List TObj) 1 (NR (.lf (.l el) x::List.replicate 7 (.tup [])) []) (fun _=>none) (fun e s=>match e with| .normal=>some (s.t,s.h)|_=>none)=some (clT el x,[]))
  (qA:exe ⟨τ,θ,n,R,[],0,te,fun _ _=>none⟩ [] (lW τ 0 fn.results.toList rs inn) A R 3 (NR (Qh el [] true) []) some (fun _ _=>none)=F [])
  (qB:∀x y,F x=some y→AW P 0 B (WQ (lW τ 0 fn.results.toList rs inn) y) (aI [] (Qh el x false)) []):
  aF P te ⟨f,1,[.r 0 (.lf (.l el))],1,rs,R,none,g,F,out⟩:=by
 have hw0:=hwf;unfold sP at hwf;rw[qAa,qAa]at hwf;obtain⟨⟨_,hwf⟩,_⟩:=hwf;simp only[qAa]at hwf;obtain⟨_,edrs,_,_⟩:=hwf;refine⟨hok,hw0,fun x y hF t h hb1=>?_⟩;obtain⟨rfl,rfl⟩:t=[.lf (.l el) x]∧h=[]:=⟨(congrArg Prod.fst hb1).symm,(congrArg Prod.snd hb1).symm⟩;intro r h' hb2;have fin:∀{e t h},WQ (lW τ 0 fn.results.toList rs inn) y e t h→e=.ret∧oH P fn.results.toList 0 r h' t h:=fun{e t h} ⟨e1,s,s1,s2,s3⟩=>by
  subst hτ;obtain⟨t1,h1,xs,k1,k2,k3⟩:=GI (e:=⟨f,1,[.r 0 (.lf (.l el))],1,rs,R,none,g,F,out⟩) (h:=[]) hinn edrs rfl rfl hnr s1 s2 hb2;exact⟨e1,t1,h1,xs,s3.trans k1,k2,k3⟩
 refine Jd hf hb (by rw[hn];exact qAf rfl) (qAN _) ?_;rw[hn];have a0:=Ck (h0:=[]) hτ (fun e he=>by cases he) hte hmix (qg (qAq 0)) (q0 x);refine AW.ai7 a0 (AW.seq (AW.seq ?_));refine AW.RA (x:=0) (y:=3) (d:=4) (es:=x.map el.enc) (tag:=.shared) h1 g1 d1 h2 g2 d2 hT rfl (qAf rfl) fun b hbe=>?_;refine AW.cond (b:=b) rfl (fun e1=>?_) fun e1=>?_
 ·have hx:x=[]:=List.map_eq_nil_iff.1 (hbe e1);subst hx e1;refine(G8 hτ hte hmix (qg (qAq 0)) (qA.trans hF)).mono fun e t h q=>?_;obtain⟨e2,k⟩:=fin q;subst e2;exact k
 ·subst e1;refine AW.skip ?_;refine(qB x y hF).mono fun e t h q=>?_;obtain⟨e2,k⟩:=fin q;subst e2;exact k
theorem SN{P:Program}{τ:Nat→TI}{te n:Nat}{θ:Nat→Option ET}{el:ET}{b:Nat}{x:List el.D}{id:Nat}{o1 o2 o3 o4:Oper}{t t2 e:TypeId}{f:DS→Option (List el.D)}(hτ:τ=TI.of P)(hte:ku P te=true)(hmix:P.follows .mixedOrders=true)
  (h1:o1.op=.buildSlice t 0 #[]) (h2:o2.op=.move (.tmp 0)) (h3:o3.op=.call {callee:=.builtin .append,args:=#[.tmp 5,.tmp 6],argTypes:=#[t,t2]}) (h4:o4.op=.assign (.tmp 7)) (hd:o1.dst=some 5∧o2.dst=some 6∧o3.dst=some 7∧o4.dst=some 2) (hg:∀o∈[o1,o2,o3,o4],o.guard=none)
  (he:fF P t=some (e,el.sz,b)) (hb:1≤b) (ht:aD.isSliceT P t2=true) (hx:x.length*b≤140737488355328)
  (q:exe ⟨τ,θ,n,List el.D,[],0,te,fun _ _=>none⟩ [] f .ret (List el.D) 7 (NR [.lf (.l el) x,.tup [],.psl 1 el.sz none,.lf (.l el) x,.lf .b false,.psl 0 el.sz (some 0),.lf (.l el) x,.psl 1 el.sz none] [.dead,.arr el x]) some (fun _ _=>none)=some x):
  AW P 0 (.seq (.region id #[o1,o2,o3,o4] false) .ret) (WQ f x) (aI [] (Qh el x false)) []:=by
 have w:∀o∈[o1,o2,o3,o4],∀t,bq #[o1,o2,o3,o4] t o=some true:=fun o ho t=>by simp[bq,hg o ho]
 simp only[qAh,forall_eq_or_imp,qCx,false_implies,forall_const,and_true]at w;obtain⟨w1,w2,w3,w4⟩:=w;obtain⟨d1,d2,d3,d4⟩:=hd;have ok:(x.map el.enc).all (aV el.sz)=true:=qAG.2 fun v hv=>by
  obtain⟨z,_,rfl⟩:=qBc.1 hv;exact qZ el z
 have s1:=Jo (s:=⟨aI [] (Qh el x false),[.res,.res]⟩) (k:=0) h1 he rfl;rw[d1]at s1;have s2:=Dm (P:=P) (o:=o2) (v:=.slice (x.map el.enc) .shared) (s:=(⟨aI [] (Qh el x false),[.res,.res]⟩:ASt).wr (.obj 0 (.arr el.sz [])::ah (some 5) (.psl 0 el.sz 0))) (by rw[h2];rfl);rw[d2]at s2;have s3:=Cm (P:=P) (k:=1) (l:=0) (es:=[]) (es0:=[]) (ys:=x.map el.enc) (tag:=.shared) (s:=((⟨aI [] (Qh el x false),[.res,.res]⟩:ASt).wr (.obj 0 (.arr el.sz [])::ah (some 5) (.psl 0 el.sz 0))).wr (ah (some 6) (.slice (x.map el.enc) .shared)))
  h3 rfl rfl he ht rfl rfl rfl rfl rfl (by simpa using hx) (by simpa using qAW (Nat.le_mul_of_pos_right _ hb) hx) rfl ok
 rw[d3]at s3;have s4:=Dm (P:=P) (o:=o4) (v:=.psl 1 el.sz (x.map el.enc).length) (s:=(((⟨aI [] (Qh el x false),[.res,.res]⟩:ASt).wr (.obj 0 (.arr el.sz [])::ah (some 5) (.psl 0 el.sz 0))).wr (ah (some 6) (.slice (x.map el.enc) .shared))).wr (.obj 0 .dead:: .obj 1 (.arr el.sz ([]++x.map el.enc))::ah (some 7) (.psl 1 el.sz ([]++x.map el.enc).length))) (by rw[h4];rfl);rw[d4]at s4;refine AW.seq (AW.of (bf.region (l:=[o1,o2,o3,o4]) 2 (.cons (.inl ⟨w1 _,s1⟩) (.cons (.inl ⟨w2 _,s2⟩) (.cons (.inl ⟨w3 _,s3⟩) (.cons (.inl ⟨w4 _,s4⟩) (.nil _))))) ?_));have:=G8 (s:=NR [.lf (.l el) x,.tup [],.psl 1 el.sz none,.lf (.l el) x,.lf .b false,.psl 0 el.sz (some 0),.lf (.l el) x,.psl 1 el.sz none] [.dead,.arr el x]) hτ hte hmix ⟨(qg (m:=0) (qAN _)).inv,qAN _,fun l hl=>absurd hl (Nat.not_lt_zero l)⟩ q;simp only[qAC,qAi];exact this
end
section
open Go Go.Proofs Go.RowKit Go.Shelf
attribute [local go_sem] Oper.semAt_some
def cellS(s:List UInt8):Value:=.string ⟨s.toArray⟩
def Ag(len:Nat)(k:Nat):List Nat:=(List.range k).map fun j=>len - 1 - j
theorem Jy(len:Nat)(k:Nat):Ag len (k+1)=Ag len k++[len - 1 - k]:=by simp[Ag,List.range_succ]
theorem K8(len:Nat)(k:Nat):(Ag len k).length=k:=by simp[Ag]
set_option maxRecDepth 100000 in
set_option maxHeartbeats 2000000 in
theorem abr(F:Fence)(n:Nat)(h7:F.fn 188)(hro:F.round=none)(hn:1≤n)(l Bs n₀ b off len cap:Nat)(z:Nat→List UInt8)(hreach:len≤140737488355328)(hb:b<n₀)(hBn:Bs<n₀)(J Jx:List Nat→World→Prop)
  (hY:∀pre (x:Nat) W,J pre W→pre.length<len→YieldAt F (n - 1) Tryz.prog l #[.int .i64 (x:Int),cellS (z x)] W fun e W'=>
   (e=.returned (.bool true)∧J (pre++[x]) W'∧Below n₀ W W')∨(e=.returned (.bool false)∧Jx (pre++[x]) W'))
  (W:World) (hBs:W.cell? ⟨Bs,0,none⟩=some (.slice (some ⟨b,off,none⟩) len cap))
  (hc:∀j,j<len→W.cell? ⟨b,off+j,none⟩=some (cellS (z j))) (h0:J [] W):
  CallsIn F n Tryz.prog 188 #[.func (.yield l) #[] #[],.pointer (some ⟨Bs,0,none⟩)] W fun e W'=>(∃v,e=.returned v)∧
   ((∃ys,ys=Ag len len∧J ys W')∨(∃pre,(∃k,k≤len∧pre=Ag len k)∧Jx pre W')):=by
 refine callsIn_of_wp Tryz.func188 rfl h7 ?_ hro;simp only[Tryz.ntmps188,qCt,qAl,qAx,Nat.reduceAdd,Nat.reduceSub,qDk,qDl,List.push_toArray,List.append_toArray,qAC,qAH];have hw1:wrap64 ((len:Int) - 1)=(len:Int) - 1:=by unfold wrap64;omega
 gi_wp2
 gi_loopw [3] (fun i wr=>∃k:Nat,k≤len∧i=.int .i64 ((len:Int) - 1 - k)∧J (Ag len k) wr∧Below n₀ W wr)
  (fun i _=>(intOf i+1).toNat)
 case atStart=>exact⟨0,qAN _,by simp,h0,Below.refl _ _⟩
 case round=>
  obtain⟨k,hk,rfl,hJs,hnx⟩:=hrel;have hBs':=(hnx.cell (p:=⟨Bs,0,none⟩) hBn).trans hBs;by_cases hlt:k<len
  ·obtain⟨fn,tmps,assign,body,hy,hR⟩:=hY _ (len - 1 - k) wr hJs (by rw[K8];exact hlt);obtain⟨i,hi⟩:∃i,i=len - 1 - k:=⟨_,rfl⟩;have hi1:(len:Int) - 1 - k=(i:Int):=by omega
   rw[←hi]at hy hR;rw[hi1];have c1:=(hnx.cell (p:=⟨b,off+i,none⟩) hb).trans (hc i (by omega));have hil:i<len:=by omega
   have hi2:i+k+1=len:=by omega
   clear hi hi1
   gi_wp2
   refine hR.mono ?_;have hi3:i=len - 1 - k:=by omega
   rintro e W3 (⟨rfl,hJ3,hk3⟩|⟨rfl,hJx3⟩)
   ·gi_wp2
    go_roundw
    case rel=>exact⟨k+1,by omega,by congr 1;omega,by rw[Jy,←hi3];exact hJ3,hnx.trans hk3⟩
    case measure=>simp[intOf];omega
   ·gi_wp2
    refine bodyPost_ret (results_none rfl _ _ _) rfl ?_;exact⟨⟨_,rfl⟩,.inr ⟨_,⟨k+1,by omega,by rw[Jy,←hi3]⟩,hJx3⟩⟩
  ·obtain rfl:k=len:=by omega
   have hi1:(k:Int) - 1 - k= -1:=by omega
   rw[hi1]
   gi_wp2
   go_end0
   exact⟨⟨_,rfl⟩,.inl ⟨_,rfl,hJs⟩⟩
set_option maxRecDepth 100000 in
set_option maxHeartbeats 1000000 in
theorem RY(F:Fence)(n:Nat)(h7:F.fn 188)(hro:F.round=none)(l Bs:Nat)(ad:Option Addr)(cap:Nat)(J:World→Prop)(W:World)(hBs:W.cell? ⟨Bs,0,none⟩=some (.slice ad 0 cap))(h0:J W):
  CallsIn F n Tryz.prog 188 #[.func (.yield l) #[] #[],.pointer (some ⟨Bs,0,none⟩)] W fun e W'=>(∃v,e=.returned v)∧J W':=by
 refine callsIn_of_wp Tryz.func188 rfl h7 ?_ hro;simp only[Tryz.ntmps188,qCt,qAl,qAx,Nat.reduceAdd,Nat.reduceSub,qDk,qDl,List.push_toArray,List.append_toArray,qAC,qAH]
 gi_wp2
 gi_loopw [3] (fun i wr=>i=.int .i64 (-1)∧J wr) (fun _ _=>0)
 case atStart=>exact⟨by rfl,h0⟩
 case round=>
  obtain⟨rfl,hJs⟩:=hrel
  gi_wp2
  go_end0
  exact⟨⟨_,rfl⟩,hJs⟩
theorem agZ(l:Array Value)(h:l.size=15):∃f:Nat→Value,l=((List.range 15).map f).toArray:=by
 refine⟨fun i=>l.getD i undef,?_⟩;apply Array.ext
 ·simp[h]
 simp_all
theorem MC{B:Nat}{A W:World}(h:Below B A W)(a:Addr)(v:Value)(ha:a.block<B):Below B (A.setCell a v) (W.setCell a v):=
 ⟨h.os,h.tape,h.output,by simpa[World.setCell]using h.size,fun k hk=>by
  by_cases e:k=a.block
  ·subst e;simp only[World.setCell,qBN,h.block _ hk]
  ·rw[Below.heap_setCell _ _ _ _ e,Below.heap_setCell _ _ _ _ e,h.block k hk]⟩
def QZ:Code:=(Code.region 2 #[{dst:=some 5,op:=.assign (.tmp 9),type:=3,pos:= "term.go:396",after:=#[],guard:=none}] false).seq
 (.region 3 #[{dst:=some 6,op:=.assign (.tmp 10),type:=9,pos:= "term.go:396",after:=#[],guard:=none}] false)
def WV:Code:=.block 1 ((Code.region 4 #[{dst:=some 11,op:=.move (.tmp 6),type:=9,pos:= "term.go:397",after:=#[],guard:=none},{dst:=some 12,op:=.load 9 (.tmp 3),type:=9,pos:= "term.go:397",after:=#[],guard:=none},{dst:=some 13,op:=.binOp .eql 9 (.tmp 11) (.tmp 12) 9,type:=4,pos:= "term.go:397",after:=#[{on:=0,ground:=.data},{on:=1,ground:=.data}],guard:=none}] false).seq
 (.cond (.tmp 13) ((Code.region 5 #[{dst:=some 14,op:=.move (.tmp 5),type:=3,pos:= "term.go:398",after:=#[],guard:=none},{dst:=none,op:=.store 3 (.tmp 4) (.tmp 14),type:=0,pos:= "term.go:398",after:=#[{on:=0,ground:=.data},{on:=0,ground:=.phase}],guard:=none}] false).seq .ret) .skip))
section
variable (f:Nat→Value)(z:Nat→List UInt8)(name:List UInt8)(b3 b4 len:Nat)(w:World)
def Iz(pre:List Nat)(W:World):Prop:=(∀j∈pre,z j≠name)∧Below w.heap.size w W
def Ixz(c:Code)(pre:List Nat)(W:World):Prop:=c=.ret∧∃p j,pre=p++[j]∧z j=name∧(∀i∈p,z i≠name)∧Below w.heap.size (w.setCell ⟨b4,0,none⟩ (.int .i64 (j:Int))) W
def tm5(x:Nat):Array Value:=(((((List.range 15).map f).toArray.setIfInBounds 9 (.int .i64 (x:Int))).setIfInBounds 10 (cellS (z x))).setIfInBounds 5 (.int .i64 (x:Int))).setIfInBounds 6 (cellS (z x))
def Axz(x:Nat)(a':Act)(_:World):Prop:=a'={tmps:=tm5 f z x,defers:=[]}
set_option maxRecDepth 100000 in
set_option maxHeartbeats 4000000 in
theorem aa5(F:Fence)(l n:Nat)(x:Nat)(W:World)(K:Act→World→Prop)
  (hK:∀a' W',KeepsFrom w.heap.size W W'→Below w.heap.size W W'→Axz f z x a' W'→K a' W'):
  QZ.wpIn (F.inRound l) n Tryz.prog (Exit.then K (fun _ _ _=>False)) {tmps:=(((List.range 15).map f).toArray.setIfInBounds 9 (.int .i64 (x:Int))).setIfInBounds 10 (cellS (z x)),defers:=[]} W:=by
 unfold QZ;simp only[List.range,List.range.loop,List.map]
 gi_wp2
 exact hK _ _ (KeepsFrom.refl _ _) (Below.refl _ _) rfl
set_option maxRecDepth 100000 in
set_option maxHeartbeats 4000000 in
theorem adS(F:Fence)(l n:Nat)(pre:List Nat)(x:Nat)(a':Act)(W:World){c4:Array Value}{ty:TypeId}(h3:f 3=.pointer (some ⟨b3,0,none⟩))(h4:f 4=.pointer (some ⟨b4,0,none⟩))
  (hb3:b3<w.heap.size) (hb4:b4<w.heap.size) (hc3:w.cell? ⟨b3,0,none⟩=some (.string ⟨name.toArray⟩)) (hc4:w.heap[b4]? =some (.cells c4 ty (0,0))) (hs4:c4.size=1) (hI:Iz z name w pre W) (hA:Axz f z x a' W):
  WV.wpIn (F.inRound l) n Tryz.prog (ownPostG w.heap.size (Below w.heap.size) (Iz z name w) (Ixz z name b4 w) (pre++[x]) W) a' W:=by
 have hA:a'=_:=hA;subst hA;obtain⟨hI1,hW⟩:=hI;have hc3':W.cell? ⟨b3,0,none⟩=some (.string ⟨name.toArray⟩):=(hW.cell (p:=⟨b3,0,none⟩) hb3).trans hc3;have hc4':W.heap[b4]? =some (.cells c4 ty (0,0)):=(hW.block b4 hb4).trans hc4;have e0:W.cell? ⟨b4,0,none⟩=some (c4.getD 0 undef)∧W.frozen? ⟨b4,0,none⟩=false:=by
  constructor
  ·simp[World.cell?,hc4',Array.getD,show 0<c4.size by omega]
  ·simp[World.frozen?,hc4']
 unfold WV tm5 cellS;simp only[List.range,List.range.loop,List.map];rw[h3,h4];by_cases hn:z x=name
 ·have hn':(z x==name)=true:=by simpa using hn
  gi_wp2
  refine⟨(KeepsOthers.setCell _ _ _).from _,rfl,pre,x,rfl,hn,hI1,?_⟩;exact MC hW _ _ hb4
 ·have hn':(z x==name)=false:=by simpa using hn
  gi_wp2
  refine⟨KeepsFrom.refl _ _,Below.refl _ _,fun j hj=>?_,hW⟩;rcases qAy.1 hj with h|h
  ·exact hI1 j h
  ·rw[qAL.1 h];exact hn
end
section
variable (z:Nat→List UInt8)(name:List UInt8)(len cap b off:Nat)(ad:Option Addr)
theorem agn(F:Fence)(n:Nat)(h7:F.fn 188)(hro:F.round=none)(hn:1≤n)(bk:Nat)(w:World)(hreach:len≤140737488355328)(hbk:bk<w.heap.size)(hb:b<w.heap.size∨len=0)(had:len=0∨ad=some ⟨b,off,none⟩)(hck:w.cell? ⟨bk,0,none⟩=some (.slice ad len cap))
  (hc:∀j,j<len→w.cell? ⟨b,off+j,none⟩=some (cellS (z j))):
  SeqStopsK F n Tryz.prog 188 #[.pointer (some ⟨bk,0,none⟩)] (fun x:Nat=>#[Value.int .i64 (x:Int),cellS (z x)]) (Below w.heap.size) (fun xs=>xs=Ag len len) (fun pre=>∃k,k≤len∧pre=Ag len k) len w:=fun l J Jx W hW _ _ hY h0=>by
 have hck':=(hW.cell (p:=⟨bk,0,none⟩) hbk).trans hck;rcases qCK len with h|h
 ·subst h;exact(RY F n h7 hro l bk ad cap (J []) W hck' h0).mono fun e W' ⟨he,hj⟩=>⟨he,.inl ⟨_,rfl,hj⟩⟩
 ·have hb':=hb.resolve_right (by omega);obtain rfl:=had.resolve_left (by omega);refine(abr F n h7 hro hn l bk w.heap.size b off len cap z hreach hb' hbk J Jx hY W hck' (fun j hj=>(hW.cell (p:=⟨b,off+j,none⟩) hb').trans (hc j hj)) h0).mono ?_;rintro e W' ⟨he,⟨ys,rfl,hj⟩|⟨pre,⟨k,hk,rfl⟩,hj⟩⟩
  ·exact⟨he,.inl ⟨_,rfl,hj⟩⟩
  ·exact⟨he,.inr ⟨_,⟨k,hk,rfl⟩,hj⟩⟩
theorem aaD{len k:Nat}{p:List Nat}{j:Nat}(hk:k≤len)(h:Ag len k=p++[j]):j<len∧∀i,j<i→i<len→i∈p:=by
 have hl:k=p.length+1:=by have:=congrArg List.length h;rw[K8]at this;simpa using this
 subst hl;rw[Jy]at h;obtain⟨h1,h2⟩:=List.append_inj' h rfl;cases h2;refine⟨by omega,fun i h3 h4=>?_⟩;rw[←h1];exact qBc.2 ⟨len - 1 - i,qBT.2 (by omega),by omega⟩
theorem adA{len:Nat}(i:Nat)(h:i<len):i∈Ag len len:=qBc.2 ⟨len - 1 - i,qBT.2 (by omega),by omega⟩
theorem adR{Q:Exit→Act→World→Prop}{a:Act}{w:World}{bk b3 b4:Nat}{c4:Array Value}{ty:TypeId}(ha:a.tmps.size=15)(h16:a.tmps.getD 8 undef=.func (.func 188) #[] #[.pointer (some ⟨bk,0,none⟩)])
  (h3:a.tmps.getD 3 undef=.pointer (some ⟨b3,0,none⟩)) (h4:a.tmps.getD 4 undef=.pointer (some ⟨b4,0,none⟩))
  (hb3:b3<w.heap.size) (hb4:b4<w.heap.size) (hc3:w.cell? ⟨b3,0,none⟩=some (.string ⟨name.toArray⟩)) (hc4:w.heap[b4]? =some (.cells c4 ty (0,0))) (hs4:c4.size=1)
  (hreach:len≤140737488355328) (hbk:bk<w.heap.size) (hb:b<w.heap.size∨len=0) (had:len=0∨ad=some ⟨b,off,none⟩) (hck:w.cell? ⟨bk,0,none⟩=some (.slice ad len cap))
  (hc:∀j,j<len→w.cell? ⟨b,off+j,none⟩=some (cellS (z j)))
  (hdone:(∀j,j<len→z j≠name)→∀D W,w.heap.size≤D→Below w.heap.size w W→W.heap[D]? =some (.deferred (some []))→Q .normal {a with defers:={target:=.collected D,args:=#[]}::a.defers} W)
  (hstop:∀j,j<len→z j=name→(∀i,j<i→i<len→z i≠name)→∀D W,w.heap.size≤D→Below w.heap.size (w.setCell ⟨b4,0,none⟩ (.int .i64 (j:Int))) W→W.heap[D]? =some (.deferred (some []))→Q .ret {a with defers:={target:=.collected D,args:=#[]}::a.defers} W):
  (Code.rangeFunc (.tmp 8) #[9,10] QZ WV).wpIn Fence.wide 3 Tryz.prog Q a w:=by
 obtain⟨tm,ds⟩:=a;obtain⟨f,hf⟩:=agZ tm ha;subst hf;have f16:f 8=.func (.func 188) #[] #[.pointer (some ⟨bk,0,none⟩)]:=by simpa[Array.getD]using h16
 have f3:f 3=.pointer (some ⟨b3,0,none⟩):=by simpa[Array.getD]using h3
 have f4:f 4=.pointer (some ⟨b4,0,none⟩):=by simpa[Array.getD]using h4
 refine wpIn_rangeFunc_ownH (α:=Nat) (F:=Fence.wide) (gf:=188) (lb:=#[.pointer (some ⟨bk,0,none⟩)]) (encs:=fun x:Nat=>#[Value.int .i64 (x:Int),cellS (z x)]) (Kp:=Below w.heap.size) (S:=fun xs=>xs=Ag len len) (Sp:=fun pre=>∃k,k≤len∧pre=Ag len k) (N:=len) (w0:=w)
  rfl (by omega) (by simpa[Act.eval,Array.getD]using f16) trivial (enters_of Tryz.func188 (by kernel_rfl) rfl) (agn z len cap b off ad Fence.wide 2 trivial rfl (by omega) bk w hreach hbk hb had hck hc) belowK_t (belowK_b (qAq _)) (Below.refl _ _) (fun _=>rfl)
  (Iz z name w) (Ixz z name b4 w) ?_ ?_ ⟨fun j hj=>(by cases hj),Below.refl _ _⟩ (Axz f z) ?_ ?_ ?_ ?_ ?_
 ·exact fun s X Y row hs hg hr=>⟨hs.1,ownFrom_below (qAq _) (qAq _) s X Y row hs.2 hg hr⟩
 ·rintro c s X Y row ⟨e,p,j,e2,e3,e4,hs⟩ hg hr;exact⟨e,p,j,e2,e3,e4,hs.grown hg (by have:=hs.size;simp only[World.size_setCell]at this;exact this) fun k hk=>(hr k hk).1⟩
 ·exact fun x a' s X Y row h _ _=>h
 ·intro l pre x W K hi hK;have h:=aa5 f z w Fence.wide l 1 x W K fun a' W' h1 h2 h3=>hK a' W' h1 h2 ⟨hi.1,hi.2.trans h2⟩ h3;refine(congrArg (fun t=>Code.wpIn (Fence.wide.inRound l) 1 Tryz.prog QZ (Exit.then K fun _ _ _=>False) ⟨t,[]⟩ W) ?_).mpr h;simp
 ·intro l pre x a' W _ _ hi hx _;exact adS f z name b3 b4 w Fence.wide l 1 pre x a' W f3 f4 hb3 hb4 hc3 hc4 hs4 hi hx
 ·rintro D xs W hD rfl hi hk;exact hdone (fun j hj=>hi.1 j (adA j hj)) D W hD hi.2 hk
 ·rintro D c pre W hD ⟨k,hk,rfl⟩ ⟨rfl,p,j,e2,e3,e4,hs⟩ hkD;obtain⟨h1,h2⟩:=aaD hk e2;exact wpIn_ret (hstop j h1 e3 (fun i hi1 hi2=>e4 i (h2 i hi1 hi2)) D W hD hs hkD)
end
end
section
open Go Go.Proofs
set_option maxRecDepth 100000
def Vs(_:Nat):Ent:=⟨139,1,[.r 0 .Ls],1,[.r 0 (.func 188 [.ptr 0 0]),.w (.box [.Ls])],List Str,none,none,fun x=>some x,fun r=>r⟩
theorem agQ(n:Nat):aF Tryz.prog TE (Vs n):=mk n [] (e:=Vs n) (inn:=some) .n @Tryz.func139 (by kernel_rfl) sm fun _=>by kernel_rfl
theorem acH:gT Tryz.prog 73=true:=by kernel_rfl
section
variable (n:Nat)(name:Str)(l:List Str)
def lt0:List TV:=.lf (.l .s) l:: .lf .s name::List.replicate 13 (.tup [])
def ltA:List TV:=.lf (.l .s) l:: .lf .s name:: .tup []:: .ptr 0 0:: .ptr 1 0::List.replicate 10 (.tup [])
def P7:List TObj:=[.box [.lf .s name],.box [.lf (.n .i64) 0]]
def Iy:List TV:=.lf (.l .s) l:: .lf .s name:: .tup []:: .ptr 0 0:: .ptr 1 0:: .tup []:: .tup []:: .lf (.l .s) l:: .func 188 [.ptr 2 0]::List.replicate 6 (.tup [])
def Rc:List TObj:=[.box [.lf .s name],.box [.lf (.n .i64) 0],.box [.lf (.l .s) l]]
def QX(v:Int):List TObj:=[.box [.lf .s name],.box [.lf (.n .i64) v],.box [.lf (.l .s) l]]
noncomputable def Dn:Code:=Vp Tryz.f73
theorem lqA:exe ⟨τ,θ,n,Unit,[],0,TE,fun _ _=>none⟩ [] (fun _=>none) (cL Dn) (List TV×List TObj) 2 (NR (lt0 name l) []) (fun _=>none) (fun e s=>match e with| .normal=>some (s.t,s.h)|_=>none)=some (ltA name l,P7 name):=by kernel_rfl
theorem lqB:exe ⟨τ,θ,n,Unit,[],0,TE,fun _ _=>none⟩ [Vs n] (fun _=>none) (cL (cL (cR Dn))) (List TV×List TObj) 12 (NR (ltA name l) (P7 name)) (fun _=>none) (fun e s=>match e with| .normal=>some (s.t,s.h)|_=>none)=some (Iy name l,Rc name l):=by kernel_rfl
theorem lqI:exe ⟨τ,θ,n,Int,[],0,TE,fun _ _=>none⟩ [] (lW τ 0 Tryz.f73.results.toList (oG n).rs some) (cR (cR Dn)) Int 7 (NR (Iy name l) (Rc name l)) some (fun _ _=>none)=some (-1):=by kernel_rfl
theorem lqC(v:Int):lW τ 0 Tryz.f73.results.toList (oG n).rs some ⟨Iy name l,QX name l v,[],[],[],[],[],[]⟩=some v:=by kernel_rfl
end
theorem Yw{w:World}{κ:aH}{pv:bN}{l:List Str}{tag:Tag}{v:Value}(h:Rel w κ pv (.slice (l.map encS) tag) v):
  ∃ad cap b off,v=.slice ad l.length cap∧(b<w.heap.size∨l.length=0)∧(l.length=0∨ad=some ⟨b,off,none⟩)∧∀j (hj:j<l.length),w.cell? ⟨b,off+j,none⟩=some (cellS l[j]):=by
 cases h with
 |@slice _ _ a cap b off sz u h1 h2 h3 h3' h4 h5 h6 ht=>
  simp only[qAi]at *;have hs:∀j,(hj:j<l.length)→(l.map encS).getD j []=[.str l[j]]:=fun j hj=>by simp[List.getD,qAB,qAd hj,encS]
  have hcell:∀j (hj:j<l.length),w.cell? ⟨b,off+j,none⟩=some (cellS l[j]):=fun j hj=>by
   have z1:sz=1:=by have:=h1 j hj;rw[hs j hj]at this;exact this.symm
   subst z1;have c:=h5 j 0 hj (by omega);have r:=h6 j 0 hj (by omega);rw[hs j hj]at r;have r:Rel w κ pv (.str l[j]) (u j 0):=r;obtain⟨e,_⟩:=r.uY;rw[e]at c;simpa[cellS]using c
  refine⟨a,cap,b,off,rfl,?_,?_,hcell⟩
  ·rcases qCK l.length with h|h
   ·exact .inr h
   ·exact .inl (lt_of_cell (hcell 0 h))
  ·rcases qCK l.length with h|h
   ·exact .inl h
   ·exact .inr (h2 (fun e=>by have:=congrArg List.length e;simp only[qAi,qAx]at this;omega))
section
variable (name:Str)(l:List Str)
theorem ady{κ:aH}{ak:bN}{w:World}{vs:List Value}{R:Ending→World→Prop}(hen:Entry κ ak [] w)(hvl:vs.length=(aI [] [.lf (.l .s) l,.lf .s name]).length)
  (hr:∀j,j<(aI [] [.lf (.l .s) l,.lf .s name]).length→Rel w κ (aC ak κ []) ((aI [] [.lf (.l .s) l,.lf .s name]).getD j .unk) (vs.getD j undef)) (hll:l.length≤100000)
  (hdone:(∀j (hj:j<l.length),l[j]≠name)→∀κ2 a w2 D W,Sim (bodyC κ ak [] w []) κ2 ⟨aI (Rc name l) (Iy name l),au (Rc name l)⟩ a w2→Go.RowKit.Below w2.heap.size w2 W→w2.heap.size≤D→W.heap[D]? =some (.deferred (some []))→
   (cR (cR Dn)).wp Tryz.prog (bodyPostM Fence.wide 3 Tryz.prog Tryz.f73 R) {a with defers:=wL D} W)
  (hstop:∀j (hj:j<l.length),l[j]=name→(∀i,j<i→(hi:i<l.length)→l[i]≠name)→∀κ2 a w2 D W,Sim (bodyC κ ak [] w []) κ2 ⟨aI (QX name l j) (Iy name l),au (QX name l j)⟩ a w2→Go.RowKit.Below w2.heap.size w2 W→w2.heap.size≤D→W.heap[D]? =some (.deferred (some []))→
   bodyPostM Fence.wide 3 Tryz.prog Tryz.f73 R .ret {a with defers:=wL D} W):
  Calls Tryz.prog 73 vs.toArray w R:=by
 have hte:ku Tryz.prog TE=true:=by kernel_rfl
 have hmix:Tryz.prog.follows .mixedOrders=true:=by kernel_rfl
 have hr0:AW Tryz.prog 0 (cL Dn) (Qm 0 (aI (P7 name) (ltA name l)) (au (P7 name))) (aI [] (lt0 name l)) []:=
  Ck jr (fun e he=>by cases he) hte hmix (qg (h:=[]) (qAq 0)) (lqA 0 name l)
 have hr1:AW Tryz.prog 0 (cL (cL (cR Dn))) (Qm 0 (aI (Rc name l) (Iy name l)) (au (Rc name l))) (aI (P7 name) (ltA name l)) (au (P7 name)):=
  Ck jr (fun e he=>by rw[qAL.1 he];exact agQ 0) hte hmix (qg (h:=P7 name) (qAN _)) (lqB 0 name l)
 have hkl:(bodyC κ ak [] w []).k0.length≤0:=qBn hen.klen;refine(callsIn_wide (n:=3)).1 (callsIn_of_wp_marks (fn:=Tryz.f73) (c:=(cL Dn).seq (((cL (cL (cR Dn))).seq (.block 0 (.rangeFunc (.tmp 8) #[9,10] QZ WV))).seq (cR (cR Dn)))) Tryz.func73 rfl trivial (wpIn_wide.2 ?_));have hsim:=Ba (fn:=Tryz.f73) hen hvl hr;refine wp_seq (wp_mono (hr0 _ κ _ w hkl hsim) ?_);rintro e a w1 ⟨s,κ1,⟨rfl,hl⟩,hs1⟩;obtain⟨κ1,hs1⟩:=hl _ κ1 _ _ hkl hs1;refine wp_seq (wp_seq (wp_mono (hr1 _ κ1 _ w1 hkl hs1) ?_));rintro e a w2 ⟨s,κ2,⟨rfl,hl⟩,hs2⟩;obtain⟨κ2,hs2⟩:=hl _ κ2 _ _ hkl hs2;have hlen:a.tmps.size=15:=hs2.len;obtain⟨us,e16,hul,hur⟩:=(show Rel _ _ _ (.func 188 [.ptr 2 0]) _ from hs2.slot 8 (qAf rfl)).vk;obtain⟨b3,e3,k3⟩:=(show Rel _ _ _ (.ptr 0 0) _ from hs2.slot 3 (qAf rfl)).jR;obtain⟨b4,e4,k4⟩:=(show Rel _ _ _ (.ptr 1 0) _ from hs2.slot 4 (qAf rfl)).jR
 match us,hul with
 |[u],_=>
 have h5:=hur 0 (by simp);simp only[List.getD,qAE,qAs]at h5;obtain⟨bk,rfl,k5⟩:=h5.jR;obtain⟨c3,ty3,q3,l3,p3,r3⟩:=hs2.box (cs:=[.str name]) k3 rfl;obtain⟨c4,ty4,q4,l4,p4,r4⟩:=hs2.box (cs:=[.int .i64 0]) k4 rfl;obtain⟨c5,ty5,q5,l5,p5,r5⟩:=hs2.box (cs:=[.slice (l.map encS) .shared]) k5 rfl;have hc3:=p3 0 (by simp);obtain⟨e3',_⟩:=(show Rel _ _ _ (.str name) _ from r3 0 (by simp)).uY;rw[e3']at hc3;have hc5:=p5 0 (by simp);obtain⟨ad,cap,b,off,ev,hb,had,hz⟩:=Yw (show Rel _ _ _ (.slice (l.map encS) .shared) _ from r5 0 (by simp));rw[ev]at hc5;have hd0:a.defers=[]:=hs2.defers;obtain⟨tm,dfs⟩:=a;subst hd0;have gz:∀j (hj:j<l.length),l.getD j []=l[j]:=fun j hj=>by simp[List.getD,qAd hj]
 refine wp_block (wpIn_wide.1 (adR (fun j=>l.getD j []) name l.length cap b off ad (w:=w2) (bk:=bk) (b3:=b3) (b4:=b4) hlen e16 e3 e4 (hs2.bound 0 b3 k3) (hs2.bound 1 b4 k4) hc3 q4 l4 (by omega) (hs2.bound 2 bk k5) hb had hc5 (fun j hj=>?_) ?_ ?_))
 ·simp only[gz j hj];exact hz j hj
 ·intro hno D W hD hB hk;exact hdone (fun j hj=>by rw[←gz j hj];exact hno j hj) κ2 _ w2 D W hs2 hB hD hk
 ·intro j hj hnm hgt D W hD hB hk;have hsC:Sim (bodyC κ ak [] w []) κ2 ⟨aI (QX name l j) (Iy name l),au (QX name l j)⟩ _ (w2.setCell ⟨b4,0,none⟩ (.int .i64 (j:Int))):=
   hs2.store (j:=0) (cs:=[.int .i64 0]) k4 rfl (by simp) (.int (by simp only[jW,IntKind.min,IntKind.max,IntKind.signed,IntKind.bits];omega))
  have hsz:(w2.setCell ⟨b4,0,none⟩ (.int .i64 (j:Int))).heap.size=w2.heap.size:=by simp
  exact hstop j hj (by rw[←gz j hj];exact hnm) (fun i h1 h2=>by rw[←gz i h2];exact hgt i h1 h2) κ2 _ _ D W hsC (by rw[hsz];exact hB) (by rw[hsz];exact hD) hk
end
theorem Ri{s:Str}:∀{X:List Str},(∀x∈X,x≠s)→AY s X=none
 |[],_=>rfl
 |x::X,h=>by
  have h1:(x==s)=false:=by simpa using h x (qBp ..)
  simp only[AY,h1,cond_false,Ri fun y hy=>h y (qAk _ hy)];rfl
theorem X8{s:Str}:∀{pre:List Str} {post:List Str},(∀x∈pre,x≠s)→AY s (pre++s::post)=some pre.length
 |[],_,_=>by simp[AY]
 |x::pre,post,h=>by
  have h1:(x==s)=false:=by simpa using h x (qBp ..)
  simp only[qAH,AY,h1,cond_false,X8 (post:=post) fun y hy=>h y (qAk _ hy)];rfl
theorem VH{s:Str}{l:List Str}(h:∀j (hj:j<l.length),l[j]≠s):lastB s l= -1:=by
 unfold lastB;rw[Ri fun x hx=>by obtain⟨j,hj,rfl⟩:=qCF.1 (List.mem_reverse.1 hx);exact h j hj]
theorem ZH{s:Str}{l:List Str}{j:Nat}(hj:j<l.length)(h:l[j]=s)(hg:∀i,j<i→(hi:i<l.length)→l[i]≠s):lastB s l=(j:Int):=by
 have e:l=l.take j++l[j]::l.drop (j+1):=by rw[List.getElem_cons_drop,qCA]
 have er:l.reverse=(l.drop (j+1)).reverse++s::(l.take j).reverse:=by rw[←h];grind
 unfold lastB;rw[er,X8 fun x hx=>by
  obtain⟨i,hi,rfl⟩:=qCF.1 (List.mem_reverse.1 hx)
  grind]
 simp only[qCk,qCh];omega
theorem Xw(t:List TV)(h:List TObj):St 0 [] (NR t h):=⟨(qg (m:=0) (h:=h) (t:=t) (qAN _)).inv,qAN _,fun l hl=>(by omega)⟩
theorem Iw(n:Nat):aF Tryz.prog TE (oG n):=by
 refine⟨acH,by kernel_rfl,fun x y hF t h hb=>?_⟩;obtain⟨l,name⟩:=x;obtain⟨rfl,rfl⟩:t=[.lf (.l .s) l,.lf .s name]∧h=[]:=⟨(congrArg Prod.fst hb).symm,(congrArg Prod.snd hb).symm⟩;clear hb;have hF:lT n l name=some y:=hF;unfold lT at hF;have hll:l.length≤100000:=by
  apply qAm;intro hn;rw[decide_eq_false hn]at hF;cases hF
 rw[decide_eq_true hll]at hF;have hy:lastB name l=y:=Option.some.inj hF;have hte:ku Tryz.prog TE=true:=by kernel_rfl
 have hmix:Tryz.prog.follows .mixedOrders=true:=by kernel_rfl
 intro r h' hb2;have ret:=fun(v:Int) (s:DS) (hv:v=y) (hst:St 0 [] s) (hs:lW τ 0 Tryz.f73.results.toList (oG n).rs some s=some v)=>
  GI (h:=[]) (P:=Tryz.prog) (e:=oG n) (rvs:=Tryz.f73.results.toList) (out:=(oG n).out) (inn:=some) sm (by kernel_rfl) (h0:=[]) rfl rfl rfl hst (by rw[←jr];exact hs.trans (congrArg some hv)) hb2
 have hjl:(au ([]:List TObj)).length≤h'.length:=qAN _;intro κ ak w vs hen hvl hr;refine ady (R:=SE κ ak [] r h' w) name l hen hvl hr hll (fun hn κ2 a w2 D W hs hB hD hk=>?_) fun j hj e1 e2 κ2 a w2 D W hs hB hD hk=>?_
 ·have hv:(-1:Int)=y:=(VH hn).symm.trans hy;refine aay hen hjl hs hB hD hk ?_;refine(G8 (R:=Int) jr hte hmix (Xw (Iy name l) (Rc name l)) (lqI n name l)).mono fun e t h q=>?_;obtain⟨e1,s,s1,s2,s3⟩:=q;subst e1;obtain⟨t1,h1,xs,k1,k2,k3⟩:=ret (-1) s hv s1 s2;exact⟨t1,h1,xs,s3.trans k1,k2,k3⟩
 ·have hv:(j:Int)=y:=(ZH hj e1 e2).symm.trans hy;exact adl hen hjl hs hB hD hk (ret j ⟨Iy name l,QX name l j,[],[],[],[],[],[]⟩ hv (Xw (Iy name l) (QX name l j)) (lqC n name l j))
end
section
open Go Go.Proofs
set_option maxRecDepth 100000 in
theorem SC:aP Tryz.prog 14 [.slice [] .nils] [] (.psl 0 1 0) [.arr 1 []]:=by
 refine EW true Tryz.func14 rfl (by rw[Tryz.ntmps14];exact qAf rfl) fun Q hQ t ht=>?_
 conv at ht=>whnf
 subst ht;refine AW.xk fun K1 hK1=>?_;refine AW.region jr zQ 0 ?_
 conv=>whnf
 refine hK1 _ _ ?_;refine AW.xk fun K2 hK2=>?_;refine AW.xk fun K3 hK3=>?_;refine AW.RA (x:=0) (y:=3) (d:=4) (T:=28) (e:=3) (es:=[]) (tag:=.nils) rfl rfl rfl rfl rfl rfl (by kernel_rfl) rfl (qAf rfl) fun b hb=>?_
 conv=>whnf
 refine hK3 _ _ ?_;refine AW.cond (b:=b) rfl (fun e1=>?_) (fun e1=>?_)
 ·refine AW.xk fun K4 hK4=>?_;refine AW.region jr zQ 0 ?_
  conv=>whnf
  refine hK4 _ _ ?_;refine AW.ret ?_
  conv=>whnf
  refine hQ _ _ _ (afm (u2 (.psl 0 1 0::(u4 (.unk::[])))) [.arr 1 []] (wk [none] (.u2 (.cons (.nilP _ _) (.u4 (.u .nil)))) (.w rfl .nil) rfl) (Ko jr [0] rfl (.cons rfl .nil) ?_))
  conv=>whnf
  try rfl
 ·refine AW.skip ?_
  conv=>whnf
  refine hK2 _ _ ?_;refine AW.xk fun K4 hK4=>?_;refine AW.Ur jr zQ 2 ?_
  conv=>whnf
  refine UH (l:=([]:List Int)) (l':=([]:List Int)) (ys:=[]) (r:=[]) (f:=encI) rfl (Oh _) adM ?_
  conv=>whnf
  refine hK4 _ _ ?_;refine AW.ret ?_
  conv=>whnf
  refine hQ _ _ _ (.inl (Ko jr [1] rfl (.cons rfl .nil) ?_))
  conv=>whnf
  try rfl
set_option maxRecDepth 100000 in
theorem TL(m:Nat)(p0 r:List Int)(h:app 8 ([]:List Int) p0=some r):aP Tryz.prog 14 [.slice (List.map encI p0) (.tip 0 1)] [.tip m] (.psl 1 1 p0.length) [.tip m,.arr 1 (List.map encI p0)]:=by
 refine EW true Tryz.func14 rfl (by rw[Tryz.ntmps14];exact qAf rfl) fun Q hQ t ht=>?_
 conv at ht=>whnf
 subst ht;have hr:r=p0:=by unfold app at h;split at h<;>simp at h;exact h.symm
 subst hr;refine AW.xk fun K1 hK1=>?_;refine AW.region jr zQ 0 ?_
 conv=>whnf
 refine hK1 _ _ ?_;refine AW.xk fun K2 hK2=>?_;refine AW.xk fun K3 hK3=>?_;refine AW.RA (x:=0) (y:=3) (d:=4) (T:=28) (e:=3) (es:=List.map encI r) (tag:=.tip 0 1) rfl rfl rfl rfl rfl rfl (by kernel_rfl) rfl (qAf rfl) fun b hb=>?_
 conv=>whnf
 refine hK3 _ _ ?_;refine AW.cond (b:=b) rfl (fun e1=>?_) (fun e1=>?_)
 ·have hp:r=[]:=by simpa using hb e1
  subst hp;refine AW.xk fun K4 hK4=>?_;refine AW.region jr zQ 0 ?_
  conv=>whnf
  refine hK4 _ _ ?_;refine AW.ret ?_
  conv=>whnf
  refine hQ _ _ _ (afm (u2 (.psl 1 1 0::(u4 (.unk::[])))) [.tip m,.arr 1 []] (wk [some 0,none] (.u2 (.cons (.nilP _ _) (.u4 (.u .nil)))) (.t rfl (.w rfl .nil)) rfl) (Ko jr [0,1] rfl (.cons rfl (.cons rfl .nil)) ?_))
  conv=>whnf
  try rfl
 ·refine AW.skip ?_
  conv=>whnf
  refine hK2 _ _ ?_;refine AW.xk fun K4 hK4=>?_;refine AW.Ur jr zQ 2 ?_
  conv=>whnf
  refine UH (l:=([]:List Int)) (l':=([]:List Int)) (ys:=r) (f:=encI) h (Oh _) adM ?_
  conv=>whnf
  refine hK4 _ _ ?_;refine AW.ret ?_
  conv=>whnf
  refine hQ _ _ _ (.inl (Ko jr [0,2] rfl (.cons rfl (.cons (congrArg (AObj.arr _) (aeP _ _)) .nil)) ?_))
  conv=>whnf
  try rfl
theorem KI(w:World):Calls Tryz.prog 11 #[.nilIface] w fun e w'=>e=.returned (.int .i64 0)∧w'=w:=by
 go_enter Tryz.func11,Tryz.ntmps11
 go_wp2
 go_ret
 exact⟨rfl,rfl⟩
theorem afB(xs:Array Value)(w:World)(hx:xs.size=2):CallsD Tryz.prog 61 xs .returning w fun e u' w'=>e=.returned (.tuple #[])∧u'=.returning∧w'=w:=by
 obtain⟨l⟩:=xs
 match l,hx with
 |[x0,x1],_=>
 refine callsD_of_wpS Tryz.func61 rfl fun c₀ cs hu=>?_;apply wpS_seq;apply wpS_region;simp[wpOpsS,go_sem,recoverD,hu,Tryz.ntmps61,Exit.thenS];refine(KI w).mono ?_;rintro e w' ⟨rfl,rfl⟩;refine wpS_of_wp ?_;refine wp_seq ?_;apply wp_region;simp[wpOps,go_sem,Exit.then];refine .inl (.inl ?_);refine wp_cond (t:=false) ?_ ?_
 ·simp[Act.eval,go_sem]
 refine wp_skip ?_;cases c₀
 simp_all [wpOps,go_sem,Exit.inBlock,bodyPostS,results,Tryz.results61]
end
section
open Go Go.Proofs
theorem abG{P:Program}{te:Nat}{e:Ent}(h1:gT P e.f=true)(h2:sP e=true)(hp:e.pe=none)(h:∀x y,e.F x=some y→∀y',HEq y' y→aP P e.f (aI (bE aT e.ps (bR _ x) (bA e.na) []).2 (bE aT e.ps (bR _ x) (bA e.na) []).1) (au (bE aT e.ps (bR _ x) (bA e.na) []).2)
  (av (bE aT e.rs (bR _ (e.out y')) (bA e.nr) (bE aT e.ps (bR _ x) (bA e.na) []).2).2 (res1 (bE aT e.rs (bR _ (e.out y')) (bA e.nr) (bE aT e.ps (bR _ x) (bA e.na) []).2).1)) (au (bE aT e.rs (bR _ (e.out y')) (bA e.nr) (bE aT e.ps (bR _ x) (bA e.na) []).2).2)):aF P te e:=by
 obtain⟨f,na,ps,nr,rs,R,pe,g,F,out⟩:=e;cases hp;refine⟨h1,h2,fun x y hF t h' hb=>?_⟩;have:=h x y hF y HEq.rfl;intro r h2 hb2
 grind
theorem YR{b:Nat}{α:Type}{x y:List α}(h:app b ([]:List α) x=some y):y.length*b≤140737488355328:=by
 unfold app at h
 grind
theorem Rp{b:Nat}{α:Type}{x y:List α}(h:app b ([]:List α) x=some y):y=x:=by
 unfold app at h
 grind
theorem afb{α:Type}{o:Option α}{y:α}(h:o=some y):o.bind some=some y:=by rw[h];rfl
theorem Ab(n:Nat):aF Tryz.prog TE (Ae n):=JR (n:=n) (τ:=τ) (θ:=θ) some jr (by kernel_rfl) (by kernel_rfl) @Tryz.func64 (by kernel_rfl) (by kernel_rfl) rfl rfl (fun _ _ h=>Option.some.inj h▸rfl) rfl rfl rfl rfl rfl rfl rfl @Tryz.underlying84 (fun _=>by kernel_rfl) (by kernel_rfl) fun _ _ h=>G8 (te:=TE) (θ:=θ) (n:=n) (p:=5) jr (by kernel_rfl) (by kernel_rfl) (qg (qAq 0)) (Eq.trans (by kernel_rfl) (afb h))
theorem Ew(n:Nat):aF Tryz.prog TE (Ez n):=JR (n:=n) (τ:=τ) (θ:=θ) some jr (by kernel_rfl) (by kernel_rfl) @Tryz.func41 (by kernel_rfl) (by kernel_rfl) rfl rfl (fun _ _ h=>Option.some.inj h▸rfl) rfl rfl rfl rfl rfl rfl rfl @Tryz.underlying25 (fun _=>by kernel_rfl) (by kernel_rfl) fun x y h=>by
 have e:y=x:=Rp h;subst e;exact SN (el:=.tm) (b:=104) (te:=TE) (θ:=θ) (n:=n) jr (by kernel_rfl) (by kernel_rfl) rfl rfl rfl rfl ⟨rfl,rfl,rfl,rfl⟩ (by simp) (e:=27) (by kernel_rfl) (qAf rfl) (by kernel_rfl) (YR h) (by kernel_rfl)
theorem wM(n:Nat):aF Tryz.prog TE (pR n):=JR (n:=n) (τ:=τ) (θ:=θ) some jr (by kernel_rfl) (by kernel_rfl) @Tryz.func14 (by kernel_rfl) (by kernel_rfl) rfl rfl (fun _ _ h=>Option.some.inj h▸rfl) rfl rfl rfl rfl rfl rfl rfl @Tryz.underlying28 (fun _=>by kernel_rfl) (by kernel_rfl) fun x y h=>by
 have e:y=x:=Rp h;subst e;exact SN (el:=.i) (b:=8) (te:=TE) (θ:=θ) (n:=n) jr (by kernel_rfl) (by kernel_rfl) rfl rfl rfl rfl ⟨rfl,rfl,rfl,rfl⟩ (by simp) (e:=3) (by kernel_rfl) (qAf rfl) (by kernel_rfl) (YR h) (by kernel_rfl)
theorem acK:gT Tryz.prog 46=true:=by kernel_rfl
theorem adC:gT Tryz.prog 47=true:=by kernel_rfl
theorem Ij(ad:Option Addr)(len cap:Nat)(hc:len≤cap)(hl:len≤140737488355328)(W:World):Calls Tryz.prog 46 #[.slice ad len cap] W fun e W'=>e=.returned (.slice ad len len)∧W'=W:=by
 go_enter Tryz.func46,Tryz.ntmps46
 go_wp2
 go_ret
 exact⟨rfl,rfl⟩
theorem Vm{f:Nat}(hf:∀(ad:Option Addr) (len cap:Nat),len≤cap→len≤140737488355328→∀W,Calls Tryz.prog f #[.slice ad len cap] W fun e W'=>e=.returned (.slice ad len len)∧W'=W)(es:List (List AV))(tag:Tag)(H:List AObj)(hl:es.length≤140737488355328):
  aP Tryz.prog f [.slice es tag] H (.slice es (.full es.length)) H:=by
 intro κ ak w vs hen hvl hr;have h0:=hr 0 (by simp)
 match vs,hvl with
 |[v],_=>
 simp only[List.getD,qAE,qAs]at h0;cases h0 with
 |@slice _ _ a cap b off sz u h1 h2 h3 h3' h4 h5 h6 ht=>
  refine(hf a es.length cap h3 hl w).mono ?_;rintro e w' ⟨rfl,rfl⟩;refine⟨_,κ,rfl,Leave.same hen (qDm _ _),?_⟩;exact .slice b off sz u h1 h2 (qAq _) h3' h4 h5 h6 (qAq _)
theorem Ce(n:Nat):aF Tryz.prog TE (BS n):=abG acK (by kernel_rfl) rfl fun(x:List Int) y h y' hy=>by
 cases hy;have h:iw n x=some y:=h;unfold iw at h;have hl:x.length≤140737488355328:=by
  apply qAm;intro hn;rw[decide_eq_false hn]at h;cases h
 rw[decide_eq_true hl]at h;cases h;have e:(x.map encI).length=x.length:=qAi ..;have:=Vm Ij (x.map encI) .shared [] (by rw[e];exact hl);rw[e]at this;exact this
theorem WK(e:Int)(W:World):Calls Tryz.prog 47 #[.int .i64 e] W fun x W'=>x=.panicked [{v:=.iface 29 (.int .i64 e),recovered:=false}]∧W'=W:=by
 have hp:∀w:World,(Sem.run Tryz.prog (Instr.panic (Value.iface 29 (Value.int IntKind.i64 e))) w)=.halt (.panic (.iface 29 (.int .i64 e))) w:=fun w=>by simp[Instr.panic]
 go_enter Tryz.func47,Tryz.ntmps47
 go_wp2
 first|exact rfl|exact⟨rfl,rfl⟩|exact⟨rfl,rfl,rfl⟩
theorem Pj(n:Nat):aF Tryz.prog TE (O6 n):=by
 refine⟨adC,by kernel_rfl,fun x y hF t h hb=>?_⟩;cases hF;cases hb;intro r h' hb';cases hb';intro κ ak w vs hen hvl hr;have h0:=hr 0 (Nat.zero_lt_one)
 match vs,hvl with
 |[v],_=>
 have h0:Rel w κ (aC ak κ _) (.int .i64 x) v:=h0;cases h0 with
 |int _=>
  refine(WK x w).mono ?_;rintro e w' ⟨rfl,rfl⟩;exact⟨κ,rfl,Leave.same hen (qDm _ _)⟩
end
end Abs
end Go.Proofs.YtfmdmcenjfkbhaaGreatDoor

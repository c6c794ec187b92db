/-
  The count of draws never falls. Conditions: none; about the model's own steps, over any program.
-/
import GoSem.Step
import Derived.Laws.World
import Derived.Control
import Derived.Lone
import Derived.Calls
import Derived.Sort.Grow
import Derived.Deep.Draws
import Derived.Tactics
import Derived.Tactics2
import Derived.WalkKit
import Derived.Laws.Externs
import Derived.KernelRfl
import Derived.Test.YtkopaeklihhdlaaGreatCDomoxc66816
set_option linter.all false
namespace Go.Proofs.YtkopaeklihhdlaaGreat
namespace Abs
section
open Go
def Rw{α:Type}:Result α→World
 | .ok _ w=>w
 | .halt _ w=>w
theorem ajK{α:Type}:∀(x:Ask α) (w:World),w.drawn≤(w.ask x).2.drawn:=by
 intro x
 induction x with
 |done a=>intro w;exact qAc _
 |ask what range k ih=>
  unfold World.ask
  grind
theorem aaf(w:World)(c:Sys):w.drawn≤(w.sys c).2.drawn:=by
 have h:=ajK (Kernel.perform c w.os) w;unfold World.sys
 grind
theorem acD(w:World)(a:Addr)(n:Nat):(w.freeze a n).drawn=w.drawn:=by
 unfold World.freeze
 grind
theorem XG{P:Program}{w w':World}{a:Addr}{v:Value}{b:Bool}{l:List Addr}(h:w.farStore P a v b=.ok (w',l)):w'.drawn=w.drawn:=by
 unfold World.farStore at h;split at h
 ·split at h
  ·rename_i r e;cases h;simp only[World.viewStore,bind,Except.bind]at e
   repeat' first
    |(cases e;done)
    |(cases e;rfl)
    |split at e
  ·cases h
 ·cases h
theorem Fu{α:Type}(P:Program):∀(s:Sem α) (w:World),w.drawn≤(Rw (s.run P w)).drawn:=by
 intro s
 induction s with
 |pure a=>intro w;exact qAc _
 |halt h=>intro w;exact qAc _
 |choose q k ih=>
  intro w;unfold Sem.run
  grind
 |sys c k ih=>intro w;unfold Sem.run;exact qAj (aaf w c) (ih _ _)
 |program k ih=>intro w;unfold Sem.run;exact ih _ w
 |mark m k ih=>intro w;unfold Sem.run;exact ih w
 |new o k ih=>intro w;unfold Sem.run;exact ih w.heap.size {w with heap:=w.heap.push o}
 |shape r k ih=>intro w;unfold Sem.run;exact ih _ w
 |frozen a k ih=>intro w;unfold Sem.run;exact ih _ w
 |freeze a n k ih=>intro w;unfold Sem.run;have:=ih (w.freeze a n);rw[acD]at this;exact this
 |getObj r k ih=>
  intro w;unfold Sem.run;split
  ·exact qAc _
  ·grind
  ·exact qAc _
 |setObj r o k ih=>
  intro w;unfold Sem.run;split
  ·exact qAc _
  ·grind
  ·exact qAc _
 |load m a k ih=>
  intro w;unfold Sem.run;split
  ·grind
  ·split
   ·grind
   ·exact qAc _
 |store m a v k ih=>
  intro w;have key:w.drawn≤(Rw (match w.cell? a with
   |some _=>if w.frozen? a then .halt (.unsupported (.unsafePointer "a write to bytes that a string shares")) w else k.run P (w.setCell a v)
   |none=>match w.farStore P a v (m==.atomic)with
    | .ok (w,_)=>k.run P w
    | .error h=>.halt h w)).drawn:=by
   split
   ·split
    ·exact qAc _
    ·exact ih (w.setCell a v)
   ·split
    ·rename_i w' _ e;have:=ih w';rw[XG e]at this;exact this
    ·exact qAc _
  cases v<;>first|exact qAc _|exact key
def GW:GStep→World
 | .go _ w _=>w
 | .comm _ _ _ _ w _=>w
 | .spawn _ _ w _=>w
 | .count _ w _=>w
 | .timer _ _ w _=>w
 | .alone _ _ w _=>w
 | .newcoro _ _ _ w _=>w
 | .coroswitch _ _ _ w _=>w
 | .collect _ w _=>w
 | .watch _ w _=>w
 | .ended _ w _=>w
theorem yV(es:Array Event)(s:GStep):GW (s.after es)=GW s:=by cases s<;>rfl
theorem Ej(p:Program)(main:Bool)(fr:Frame)(cs:List Frame)(d:Option Dying)(v:Value)(w:World):w.drawn≤(GW (doReturn p main fr cs d v w)).drawn:=by
 unfold doReturn
 repeat' first
  |exact qAc _
  |(rw[yV])
  |split
theorem aaU(w:World)(fd:Nat)(b:ByteArray)(o:Outcome):w.drawn≤(GW (endWith w fd b o)).drawn:=by
 have h:=aaf w (.write fd b);unfold endWith;generalize w.sys (.write fd b)=x at h;obtain⟨r,w'⟩:=x;cases r<;>dsimp only<;>(repeat' first|exact h|split)
theorem aeB(p:Program)(listen:Bool)(hT:∀(fr:Frame) (m:String) (w:World),w.drawn≤(GW (endThrow fr m w)).drawn)(hF:∀(fr:Frame) (cs:List Frame) (d:Option Dying) (m:String) (w:World),w.drawn≤(GW (endFatal p fr cs d m w)).drawn)
  (hE:∀(fr:Frame) (cs:List Frame) (d:Option Dying) (g:Nat) (w:World),w.drawn≤(GW (early p fr cs d g w)).drawn) (fr:Frame) (cs:List Frame) (d:Option Dying) (s:Sem Next) (w:World):w.drawn≤(GW (stepG.apply p listen fr cs d s w)).drawn:=by
 have hr:=Fu p s w;have hrt:(if listen then s.runT p w #[]else(s.run p w,#[])).1=s.run p w:=by
  split
  ·simp_all
  ·rfl
 unfold stepG.apply;dsimp only;generalize (if listen then s.runT p w #[]else(s.run p w,#[]))=x at hrt;obtain⟨r,es⟩:=x;simp only at hrt;subst hrt;dsimp only;rw[yV];refine qAj hr ?_;cases s.run p w with
 |ok a w'=>
  simp only[Rw];cases a<;>(try dsimp only)<;>(repeat' first|exact qAc _|exact hT _ _ _|(exfalso;simp_all;done)|split)
 |halt h w'=>
  simp only[Rw];cases h<;>(try dsimp only)<;>(repeat' first|exact qAc _|exact hT _ _ _|exact hF _ _ _ _ _|exact hE _ _ _ _ _|(exfalso;simp_all;done)|(rename_i e;cases e;first|exact qAc _|exact hE _ _ _ _ _)|split)
theorem ais{α:Type}(p:Program)(s:Sem α)(w:World)(es:Array Event):w.drawn≤(Rw (s.runT p w es).1).drawn:=by
 rw[Sem.runT_eq];exact Fu p s w
theorem ah3(p:Program)(main listen:Bool)(hA:∀(fr:Frame) (cs:List Frame) (d:Option Dying) (s:Sem Next) (w:World),w.drawn≤(GW (stepG.apply p listen fr cs d s w)).drawn)(fr:Frame)(cs:List Frame)(d:Option Dying)(w:World):w.drawn≤(GW (stepG.oper p listen fr cs d w)).drawn:=by
 unfold stepG.oper
 repeat' first|exact qAc _|exact hA _ _ _ _ _|split
theorem ahb(p:Program)(main listen:Bool)(hA:∀(fr:Frame) (cs:List Frame) (d:Option Dying) (s:Sem Next) (w:World),w.drawn≤(GW (stepG.apply p listen fr cs d s w)).drawn)(fr:Frame)(cs:List Frame)(d:Option Dying)(w:World):w.drawn≤(GW (stepG.exec p main listen fr cs d w)).drawn:=by
 have hO:=ah3 p main listen hA;have hL:∀(j:Option Code) (l:Nat),w.drawn≤(GW (GStep.after (seen p fr.fn ((Instr.endRound l j).runT p w #[]).2) (match((Instr.endRound l j).runT p w #[]).1 with
   | .ok v w=>doReturn p main fr cs d v w
   | .halt _ w=>.ended (.stuck "range over a function: no such loop" (fr.pos p)) w))).drawn:=fun j l=>by
  rw[yV];refine qAj (ais p (Instr.endRound l j) w #[]) ?_;split
  ·rename_i e;rw[e];exact Ej _ _ _ _ _ _ _
  ·rename_i e;rw[e];exact qAc _
 have hR:∀{α:Type} {x:Sem α} {r:Result α},x.run p w=r→w.drawn≤(Rw r).drawn:=fun e=>by rw[←e];exact Fu p _ w
 have hLv:∀(j:Option Code) (g:GStep),w.drawn≤(GW g).drawn→w.drawn≤(GW (match fr.roundOf with
   |none=>g
   |some l=>GStep.after (seen p fr.fn ((Instr.endRound l j).runT p w #[]).2) (match((Instr.endRound l j).runT p w #[]).1 with
    | .ok v w=>doReturn p main fr cs d v w
    | .halt _ w=>.ended (.stuck "range over a function: no such loop" (fr.pos p)) w))).drawn:=fun j g hg=>by
  split
  ·exact hg
  ·exact hL _ _
 unfold stepG.exec;dsimp only;split
 all_goals(try exact qAc _)
 all_goals(try exact hA _ _ _ _ _)
 ·exact hLv none _ (qAc _)
 ·exact hLv (some .ret) _ (qAc _)
 ·split<;>exact qAc _
 ·rename_i id k _;cases exitTo id k with
  |none=>exact hLv (some (.exit id)) _ (qAc _)
  |some x=>exact qAc _
 ·rename_i l k _;cases gotoIn l k with
  |none=>exact hLv (some (.goto l)) _ (qAc _)
  |some x=>exact qAc _
 ·simp only[Sem.runT_eq,yV];split
  ·rename_i e;exact qAj (hR e) (hA _ _ _ _ _)
  ·rename_i e;exact hR e
 ·simp only[Sem.runT_eq,yV];split
  ·rename_i e;exact hR e
  ·rename_i e;exact hR e
  ·rename_i e;exact hR e
 ·rename_i row args k _;cases Extern.next row with
  |none=>exact qAc _
  |some e=>exact hA _ _ _ _ _
 ·split
  ·exact qAc _
  ·split
   ·rename_i e;exact hR e
   ·rename_i e;exact hR e
 ·split
  ·exact hO _ _ _ _
  ·exact qAc _
theorem DT(fr:Frame)(m:String)(w:World):w.drawn≤(GW (endThrow fr m w)).drawn:=qAc _
theorem qB{α:Type}{p:Program}{w:World}{x:Sem α}{r:Result α}(e:x.run p w=r):w.drawn≤(Rw r).drawn:=by rw[←e];exact Fu p _ w
theorem Li(p:Program)(fr:Frame)(cs:List Frame)(d:Option Dying)(m:String)(w:World):w.drawn≤(GW (endFatal p fr cs d m w)).drawn:=by
 unfold endFatal;dsimp only;split
 ·rename_i e;exact qB e
 ·rename_i e;exact qB e
 ·rename_i e;exact qB e
theorem Gh(p:Program)(fr:Frame)(v:Value)(w:World):w.drawn≤(GW (endPrinting p fr v w)).drawn:=by
 unfold endPrinting;dsimp only;split
 ·exact DT _ _ _
 ·exact qAc _
theorem apL{c:Prop}[Decidable c]{n:Nat}{a b:GStep}(h1:n≤(GW a).drawn)(h2:n≤(GW b).drawn):n≤(GW (if c then a else b)).drawn:=by grind
theorem PG(p:Program)(fr:Frame)(cs:List Frame)(dy:Option Dying)(d:Deferred)(w:World):w.drawn≤(GW (callDeferred p fr cs dy d w)).drawn:=by
 refine apL (qAc _) ?_
 ·have hr:=Fu p (invoke d.target d.args) w;simp only[Sem.runT_eq,yV];refine qAj hr ?_;cases(invoke d.target d.args).run p w with
  |ok a w'=>
   cases a
   case coroswitch c b=>cases b<;>exact qAc _
   case alone b v=>cases b<;>exact qAc _
   case recover=>
    dsimp only;split<;>exact qAc _
   all_goals exact qAc _
  |halt h w'=>
   cases h<;>(try dsimp only)<;>(repeat' first|exact qAc _|exact Li _ _ _ _ _ _|exact DT _ _ _|split)
theorem ab1(p:Program)(main:Bool)(fr:Frame)(cs:List Frame)(dy:Option Dying)(w:World):w.drawn≤(GW (unwind p main fr cs dy w)).drawn:=by
 unfold unwind;split
 ·simp;split
  ·rename_i e;exact qB e
  ·rename_i e;exact qB e
 ·exact PG _ _ _ _ _ _
 ·split
  ·exact qAc _
  ·split
   ·exact qAc _
   ·split
    ·exact qAc _
    ·split
     ·split
      ·exact qAc _
      ·split
       ·rename_i e;exact qB e
       ·rename_i e;exact qB e
       ·rename_i e;exact qB e
     ·split
      ·exact Gh _ _ _ _
      ·exact qAc _
  ·split
   ·exact Ej _ _ _ _ _ _ _
   ·simp only[Sem.runT_eq,yV];split
    ·rename_i e;exact qAj (qB e) (Ej _ _ _ _ _ _ _)
    ·rename_i e;exact qB e
    ·rename_i e;exact qB e
theorem aeC(p:Program)(fr:Frame)(cs:List Frame)(dy:Option Dying)(g:Nat)(w:World):w.drawn≤(GW (early p fr cs dy g w)).drawn:=by
 have hn:∀w:World,w.drawn≤(GW (match w.heap[g]? with
  |some (.pending c elem)=>.go {frame:=fr,callers:=cs,status:=.running,dying:=dy} {w with heap:=w.heap.setIfInBounds g (.cells c elem)}
  |_=>.ended (.stuck "early: the variable does not wait" (fr.pos p)) w)).drawn:=fun w=>by
  split<;>exact qAc _
 unfold early;dsimp only
 repeat' first
  |exact qAc _
  |exact hn _
  |(rename_i e;exact qB e)
  |(rename_i e;exact qAj (qB e) (hn _))
  |split
theorem aaS(p:Program)(fr:Frame)(d:Dying)(f:Fatal)(w:World):w.drawn≤(GW (writeOn p fr d f w)).drawn:=by
 unfold writeOn;dsimp only;split
 ·exact qAc _
 ·simp only[Sem.runT_eq];split
  ·rename_i e;exact qB (Prod.mk.inj e).1
  ·rename_i e;exact qB (Prod.mk.inj e).1
  ·rename_i e;exact qB (Prod.mk.inj e).1
  ·rename_i e;exact qB (Prod.mk.inj e).1
theorem ajX(p:Program)(fr:Frame)(d:Dying)(w:World):w.drawn≤(GW (die p fr d w)).drawn:=by
 unfold die;split
 ·exact aaS _ _ _ _ _
 ·split
  ·split
   ·exact qAc _
   ·exact aaU _ _ _ _
  ·dsimp only;split
   ·exact qAc _
   ·split
    ·rename_i e;exact qB e
    ·rename_i e;exact qB e
   ·simp only[Sem.runT_eq,yV];split
    ·rename_i e;exact qB e
    ·rename_i e;exact qB e
    ·rename_i e;exact qB e
    ·rename_i e;exact qAj (qB e) (Gh _ _ _ _)
    ·exact qAc _
   ·exact qAc _
theorem afD(p:Program)(main:Bool)(g:Goroutine)(w:World)(b:Bool):w.drawn≤(GW (stepG p main g w b)).drawn:=by
 unfold stepG;dsimp only;split
 ·exact ajX _ _ _ _
 ·exact ahb p main b (aeB p b DT (Li p) (aeC p)) _ _ _ _
 ·exact ab1 _ _ _ _ _ _
theorem RG(p:Program)(rest:Rest)(gs:Array Goroutine)(i:Nat)(g:Goroutine)(cases:Array CommCase)(blocking:Bool)
  (shape:CommShape) (w:World) (m':Machine) (h:(communicate p rest gs i g cases blocking shape w).1=.next m'):w.drawn≤m'.world.drawn:=by
 have hwa:∀w1,waitingAt rest cases w=some w1→w1.drawn=w.drawn:=fun w1 e=>by
  unfold waitingAt at e
  grind
 unfold communicate at h;dsimp only at h;split at h
 ·cases h
 ·split at h
  ·split at h
   ·split at h
    ·rename_i e;cases h;exact qCa (hwa _ e).symm
    ·cases h
   ·cases h;exact qAc _
  ·split at h
   ·cases h
   ·rename_i e;refine qAj (qB e) ?_;simp only[Rw];clear e
    repeat' first
     |(cases h;done)
     |(cases h;exact qAc _)
     |(rename_i e;cases h;exact qB e)
     |split at h
theorem Vp(p:Program)(gs:Array Goroutine)(rest:Rest)(w:World)(m':Machine)
  (h:Go.look p gs rest w=.next m'):w.drawn≤m'.world.drawn:=by
 unfold Go.look at h;dsimp only at h;split at h
 ·split at h
  ·cases h
  ·split at h
   ·cases h
   ·split at h
    ·rename_i e;cases h;exact qB e
    ·cases h
    ·cases h
 ·cases h
theorem abj(m:Machine)(op:TimerOp)(v:Value)(m':Machine)(h:timerOp m op=.ok (v,m')):m'.world.drawn=m.world.drawn:=by
 have hd:∀(w:World) (c:Nat),(drain w c).2.drawn=w.drawn:=fun w c=>by unfold drain;split<;>rfl
 have hr:∀(m:Machine) (k:Nat) (t:Timer) (a b:Nat),(retime m k t a b).2.world.drawn=m.world.drawn:=fun m k t a b=>by
  unfold retime
  grind
 have hn:∀(m0:Machine) (var:Addr) (f:Nat→Timer→Value×Machine),(∀k t,(f k t).2.world.drawn=m0.world.drawn)→∀v m1,timerOp.named m var f=.ok (v,m1)→m1.world.drawn=m0.world.drawn:=fun m0 var f hf v m1 e=>by
  unfold timerOp.named at e
  grind
 have ho:∀(var:Addr) (m1:Machine),timerOp.opened m var=some m1→m1.world.drawn=m.world.drawn:=fun var m1 e=>by
  unfold timerOp.opened at e
  grind
 cases op with
 |new t=>
  simp only[timerOp]at h
  repeat' first
   |(cases h;done)
   |(cases h;rfl)
   |split at h
 |stop var=>
  simp only[timerOp]at h
  grind
 |reset var a b=>
  simp only[timerOp]at h
  grind
 |deadline ctx r wr a=>
  cases h;rfl
theorem KF(fr:Frame)(m:String)(w:World)(g:Goroutine)(w':World)(es:Array Event)(h:endThrow fr m w=.go g w' es):w'=w:=by
 cases h;rfl
theorem ae0(p:Program)(m m':Machine)(i:Nat)(b:Bool)(h:(runT p m i b).1=.next m'):m.world.drawn≤m'.world.drawn:=by
 simp only[runT]at h
 revert h
 generalize m.gs.swapAt! _ _=gg;have hs:=afD p (i==0) gg.1 m.world b;generalize stepG p _ gg.1 m.world b=s at *;intro h;refine qAj hs ?_;cases s<;>simp only[GW]at *
 case ended=>cases h
 case comm=>exact RG _ _ _ _ _ _ _ _ _ _ h
 case go=>cases h;exact qAc _
 case spawn=>cases h;exact qAc _
 case count=>
  grind
 case alone=>cases h;exact qAc _
 case collect=>exact Vp _ _ _ _ _ h
 case watch=>cases h;exact qAc _
 case newcoro=>cases h;exact qAc _
 case coroswitch=>
  split at h
  ·grind
  ·split at h
   ·rename_i e;cases h;rw[KF _ _ _ _ _ _ e];exact qAc _
   ·cases h
  ·cases h
 case timer=>
  split at h
  ·rename_i e;cases h;exact qCa (abj _ _ _ _ e).symm
  ·split at h
   ·rename_i e;cases h;rw[KF _ _ _ _ _ _ e];exact qAc _
   ·cases h
  ·cases h
  ·cases h
theorem aeA(p:Program)(m m':Machine)(k:Nat)(h:serve p m k=.next m'):m'.world.drawn=m.world.drawn:=by
 unfold serve at h
 grind
def MW(n:Nat):Move→Prop
 | .goroutine m _=>n≤m.world.drawn
 | .machine (.next m) _=>n≤m.world.drawn
 | .machine (.ended _ _) _=>True
theorem MW.mono{a b:Nat}(h:a≤b){x:Move}(hx:MW b x):MW a x:=by
 cases x with
 |goroutine m i=>exact qAj h hx
 |machine s ops=>
  cases s with
  |next m=>exact qAj h hx
  |ended=>trivial
theorem M8(p:Program)(rs:List Nat)(m:Machine):MW m.world.drawn (match(choose (.sched rs.length)).run p m.world with
   | .halt _ w=>.machine (.ended (.stuck "sched" "") w)
   | .ok k world=>
    if rs.length≤1 then .goroutine {m with world} (rs.getD k 0)else
    match(choose (.extern "sched.slice" 65536)).run p world with
    | .halt _ w=>.machine (.ended (.stuck "sched.slice" "") w)
    | .ok n world=>.goroutine {m with world,rest:={m.rest with slice:=if n=0 then none else some (rs.getD k 0,n)}} (rs.getD k 0)):=by
 split
 ·trivial
 ·rename_i e;have e:=qB e;split
  ·exact e
  ·split
   ·trivial
   ·rename_i e2;exact qAj e (qB e2)
theorem J8(p:Program)(m:Machine):MW m.world.drawn (askOn p m):=by
 unfold askOn;dsimp only;split
 ·trivial
 ·rename_i k w1 e;have e:m.world.drawn≤w1.drawn:=qB e;split
  ·generalize hs:serve p _ _=s;cases s with
   |next m'=>show m.world.drawn≤m'.world.drawn;rw[aeA _ _ _ _ hs];exact e
   |ended=>trivial
  ·split
   ·split
    ·exact e
    ·split
     ·exact e
     ·split<;>trivial
   ·split
    ·exact MW.mono e (M8 p _ {m with world:=w1})
    ·split
     ·trivial
     ·rename_i e2;exact MW.mono (qAj e (qB e2)) (M8 p _ {m with world:=_})
     ·rename_i e2;exact qAj e (qB e2)
     ·rename_i e2;exact MW.mono (qAj e (qB e2)) (M8 p _ (Machine.advanceTo {m with world:=_} _))
theorem Ut(p:Program)(m:Machine):MW m.world.drawn (ask p m):=by
 unfold ask;split
 ·split
  ·trivial
  ·rename_i e;have e:=qB e;split
   ·rename_i h;exact MW.mono (qAj e (Vp _ _ _ _ _ h)) (J8 p _)
   ·rename_i h;generalize Go.look p m.gs m.rest _=s at h;cases s with
    |next m'=>exact(h m' rfl).elim
    |ended=>trivial
  ·rename_i e;have e:=qB e;exact MW.mono e (J8 p {m with world:=_})
 ·exact J8 p m
theorem ahW(p:Program)(m:Machine):MW m.world.drawn (move p m):=by
 unfold move;split
 ·split
  ·exact qAc _
  ·trivial
 ·split
  ·split
   ·exact qAc _
   ·exact Ut p {m with rest:=_}
  ·exact Ut p m
theorem aht(p:Program)(m m':Machine)(h:step p m=.next m'):m.world.drawn≤m'.world.drawn:=by
 unfold Go.step Go.stepT at h;have hm:=ahW p m;generalize move p m=x at h hm;cases x with
 |goroutine m1 i=>exact qAj hm (ae0 p m1 m' i true h)
 |machine s ops=>
  subst h;exact hm
theorem MS(p:Program):∀(n:Nat) (m m':Machine),runN p n m=.next m'→m.world.drawn≤m'.world.drawn
 |0,m,m',h=>by cases h;exact qAc _
 |n+1,m,m',h=>by
  simp only[runN]at h;cases hs:step p m with
  |next m1=>rw[hs]at h;exact qAj (aht p m m1 hs) (MS p n m1 m' h)
  |ended o w=>rw[hs]at h;cases h
theorem Calls.drawn{P:Program}{f:FuncId}{args:Array Value}{w:World}{R:Ending→World→Prop}(h:Calls P f args w R)(hR:∀w',¬R .outgrown w'):Calls P f args w fun e w'=>R e w'∧w.drawn≤w'.drawn:=by
 intro cs;obtain⟨e,w',fr,hr,hc,hf,hl⟩:=h cs;refine⟨e,w',fr,⟨hr,?_⟩,hc,hf,hl⟩;cases e with
 |outgrown=>exact(hR w' hr).elim
 |returned v=>obtain⟨n,hn⟩:=hc;exact MS P n _ _ hn
 |panicked c=>obtain⟨n,hn⟩:=hc;exact MS P n _ _ hn
end
section
open Go Go.Sort
theorem adK{w w':World}(hs:w.heap.size≤w'.heap.size)(hk:∀b:Nat,b<w.heap.size→w'.heap[b]? =w.heap[b]?)(hd:w.drawn≤w'.drawn)(ho:w'.os=w.os)(ht:w'.tape=w.tape)(hp:w'.output=w.output):∃q os',w'=grow (w.drewN q) os':=by
 refine⟨w'.drawn - w.drawn,w'.heap.extract w.heap.size w'.heap.size,?_⟩;cases w with
 |mk heap tape drawn os output=>
 cases w' with
 |mk heap' tape' drawn' os' output'=>
  simp only at hs hk hd ho ht hp;subst ho ht hp;have hh:heap'=heap++heap'.extract heap.size heap'.size:=by
   grind
  have hdr:drawn'=drawn+(drawn' - drawn):=by omega
  show World.mk heap' tape' drawn' os' output'=World.mk (heap++heap'.extract heap.size heap'.size) tape' (drawn+(drawn' - drawn)) os' output'
  grind
theorem at_nil(l:Nat):at? [] l=none:=by cases l<;>rfl
theorem PY(aN:bB)(w:World)(hpv:∀b o,aN b o→b<w.heap.size):Entry [] aN [] w where
 klen:=rfl
 resv:=fun l _=>at_nil l
 obj:=fun l b h=>by rw[at_nil]at h;cases h
 apart:=fun l l' b h=>by rw[at_nil]at h;cases h
 bound:=fun l b h=>by rw[at_nil]at h;cases h
 pvlt:=hpv
 pvdis:=fun b o l _ h=>by rw[at_nil]at h;cases h
theorem TP(aN:bB)(H:List AObj)(b o:Nat):aO aN [] H b o↔aN b o:=by
 constructor
 ·rintro(h|⟨l,h,_⟩)
  ·exact h
  ·rw[at_nil]at h;cases h
 ·exact .inl
theorem quiet_of{P:Program}{f:Nat}{args:List AV}{res:AV}(hA:ak P f args [] res [])(w:World)(aN:bB)(hpv:∀b o,aN b o→b<w.heap.size)(vs:List Value)(hl:vs.length=args.length)
  (hr:∀j,j<args.length→Rel w [] aN (args.getD j .unk) (vs.getD j undef)) (V:Value) (hV:∀w' κ pv v,Rel w' κ pv res v→v=V):
  Calls P f vs.toArray w fun e w'=>e=.returned V∧∃q os',w'=grow (w.drewN q) os':=by
 have hpve:aO aN [] []=aN:=by funext b o;exact propext (TP aN [] b o)
 have h:=Calls.drawn (hA [] aN w vs (PY aN w hpv) hl (by rw[hpve];exact hr)) (by rintro w' ⟨v,κ',h,_⟩;cases h);refine h.mono ?_;rintro e w' ⟨⟨v,κ',rfl,hL,hv⟩,hd⟩;refine⟨by rw[hV _ _ _ _ hv],adK hL.iH.size (fun b hb=>hL.kept b hb fun l h=>by rw[at_nil]at h;cases h) hd hL.os hL.tape hL.output⟩
end
section
open Go
theorem AW.IQ{P:Program}{m id x y d:Nat}{o1 o2:Oper}{Q:QT}{t:List AV}{h:List AObj}{T T2 e:TypeId}{es:List (List AV)}{tag:Tag}
  (h1:o1.op=.move (.tmp x)) (g1:o1.guard=none) (d1:o1.dst=some y) (h2:o2.op=.binOp .eql T (.tmp y) (.const (.slice none 0 0)) T2) (g2:o2.guard=none) (d2:o2.dst=some d)
  (hT:P.underlying T=some (.slice e)) (hx:t.getD x .unk=.slice es tag) (hy:y<t.length)
  (hq:∀b:Bool,(b=true→es=[])→Q .normal ((t.set y (.slice es tag)).set d (.bool b)) h):AW P m (.region id #[o1,o2] false) Q t h:=by
 intro C κ a w hk hs;refine wp_region_lit (l:=[o1,o2]) ?_;simp only[wpList];have w1:∀f,Region.wanted o1 f=true:=fun f=>by simp[Region.wanted,g1]
 have w2:∀f,Region.wanted o2 f=true:=fun f=>by simp[Region.wanted,g2]
 simp only[w1,if_true];refine .inl ?_;have hop1:tu P o1 ⟨t,h⟩ ((⟨t,h⟩:ASt).wr (aI o1.dst (.slice es tag))):=ab5 (by rw[h1];simp only[aM,bC];rw[hx]);refine hop1 C κ a w hs _ _ fun κ' a' w' hs'=>?_;simp only[w2,if_true];refine .inl ?_;rw[d1]at hs';have hv:=hs'.ev (.tmp y);have e1:bC ((⟨t,h⟩:ASt).wr (aI (some y) (.slice es tag))).tmps (.tmp y)=.slice es tag:=by
  show(t.set y (.slice es tag)).getD y .unk=_;exact iw hy
 rw[e1]at hv;cases hev:a'.eval (.tmp y)with
 |slice ad n cap=>
  rw[hev]at hv;have hrun:(execOp a'.eval o2).run P w'=.ok (.value (.bool ad.isNone)) w':=by
   obtain⟨dst,op,ty,pos,after,guard⟩:=o2;simp only at h2;subst h2;have hc:a'.eval (.const (.slice none 0 0))=.slice none 0 0:=rfl;have heq:(Op.equal T (.slice ad n cap) (.slice none 0 0)).run P w'=.ok ad.isNone w':=by
    have hh:∀dd,(Op.equalIn (dd+1) T (.slice ad n cap) (.slice none 0 0)).run P w'=.ok ad.isNone w':=fun dd=>by cases ad<;>simp[Op.equalIn,run_underlying hT]
    exact hh 9999
   simp[execOp,hev,hc,binOp,eqGuard,heq]
  unfold Oper.wp;rw[hrun];refine⟨(((⟨t,h⟩:ASt).wr (aI (some y) (.slice es tag))).setSlot d (.bool ad.isNone)),κ',hq _ fun hb=>?_,?_⟩
  ·cases hv with
   |slice b off sz u q1 q2 q3 q3' q4 q5 q6 q7=>
    apply qAT;intro hne;rw[q2 hne]at hb;cases hb
  ·rw[d2];exact hs'.put (.bool _)
 |_=>rw[hev]at hv;cases hv
end
section
open Go Go.Proofs
theorem anS:aZ Tryz.prog 160=true:=by kernel_rfl
theorem am3:aZ Tryz.prog 161=true:=by kernel_rfl
theorem I4(n:Nat)(p0:List (Str×Bool))(r:List Str)(h:nY n p0=some r):
  ak Tryz.prog 160 [.func 212 [.ptr 1 0]] [.mp (List.map (fun p=>(p.1,(fun(x:Bool)=>.bool x) p.2)) p0),.box [.mapr 0]] (.slice (List.map encS r) .shared) [.mp (List.map (fun p=>(p.1,(fun(x:Bool)=>.bool x) p.2)) p0),.box [.mapr 0]]:=by
 unfold nY at h;split at h
 ·rename_i hl;have e:=Option.some.inj h;subst e;have:=Pp [.mp (List.map (fun p=>(p.1,(fun(x:Bool)=>.bool x) p.2)) p0),.box [.mapr 0]] 1 0 _ rfl rfl (by simpa using hl);simpa[qBt,qCE]using this
 ·cases h
set_option maxRecDepth 100000 in
theorem RL(n:Nat)(p0:List (Str×Bool))(r:Unit)(h:YE n p0=some r):ak Tryz.prog 161 [.mapr 0] [.mp (List.map (fun p=>(p.1,(fun(x:Bool)=>.bool x) p.2)) p0)] (.func 212 [.ptr 1 0]) [.mp (List.map (fun p=>(p.1,(fun(x:Bool)=>.bool x) p.2)) p0),.box [.mapr 0]]:=by
 refine aA false Tryz.func161 rfl (by rw[Tryz.ntmps161];exact qAa rfl) fun Q hQ t ht=>?_
 conv at ht=>whnf
 subst ht;refine AW.jN fun K1 hK1=>?_;refine AW.region aL jF 1 ?_
 conv=>whnf
 refine hK1 _ _ ?_;refine AW.jN fun K2 hK2=>?_;refine AW.region aL jF 0 ?_
 conv=>whnf
 refine hK2 _ _ ?_;refine AW.ret ?_
 conv=>whnf
 refine hQ _ _ _ (.inl (dI aL [0,1] rfl (.cons (congrArg AObj.mp (Dz (f:=(fun(x:Bool)=>.bool x)) (fun g x=>rfl) _ _)) (.cons rfl .nil)) ?_))
 conv=>whnf
 rfl
theorem apv:aZ Tryz.prog 61=true:=by kernel_rfl
set_option maxHeartbeats 1000000 in
set_option maxRecDepth 100000 in
theorem aaI(a b:ByteArray)(w:World):Calls Tryz.prog 115 #[.string a,.string b] w fun e w'=>e=.returned (.int .i64 (Lib.compareBytes a.data.toList b.data.toList))∧w'=w:=by
 go_enter Tryz.func115,Tryz.ntmps115
 go_wp2
 rw[run_callFunc_extern Tryz.func172 (by kernel_rfl) (by kernel_rfl) (by kernel_rfl) (e:=Extern.BytealgCompare.compare) (by kernel_rfl),Lib.run_compareString];simp only[Result.andThen];rw[Oper.upon_value]
 go_wp2
 go_ret
 exact⟨rfl,rfl⟩
set_option maxHeartbeats 1000000 in
set_option maxRecDepth 100000 in
theorem aaN(a b:ByteArray)(w:World):Calls Tryz.prog 61 #[.string a,.string b] w fun e w'=>e=.returned (.int .i64 (Lib.compareBytes a.data.toList b.data.toList))∧w'=w:=by
 go_enter Tryz.func61,Tryz.ntmps61
 go_wp2_with (go_at_call 115;refine(aaI _ _ _).mono ?_;rintro e w' ⟨rfl,rfl⟩)
 go_ret
 exact⟨rfl,rfl⟩
theorem Z9:∀a b:Str,Lib.compareBytes a b= -1∨Lib.compareBytes a b=0∨Lib.compareBytes a b=1
 |[],[]=>by simp[Lib.compareBytes]
 |[],_::_=>by simp[Lib.compareBytes]
 |_::_,[]=>by simp[Lib.compareBytes]
 |a::x,b::y=>by
  have:=Z9 x y;simp only[Lib.compareBytes];split
  ·simp
  ·split
   ·simp
   ·exact this
theorem EU(n:Nat)(p0:Str)(p1:Str)(r:Int)(h:strings_Compare n p0 p1=some r):ak Tryz.prog 61 [.str p0,.str p1] [] (.int .i64 r) []:=by
 have e:=Option.some.inj h;subst e;intro κ aN w vs hen hlen hr
 match vs,hlen with
 |[v,u],_=>
 have h0:=hr 0 (by simp);have h1:=hr 1 (by simp);simp only[List.getD,qAp,qBl,qAi]at h0 h1;obtain⟨e0,_⟩:=h0.Eh;obtain⟨e1,_⟩:=h1.Eh;subst e0 e1;refine(aaN _ _ w).mono ?_;rintro e w' ⟨rfl,rfl⟩;refine⟨_,κ,rfl,Leave.same hen (qCs _ _),?_⟩;refine .int ?_;rcases Z9 p0 p1 with h|h|h<;>simp[h,rD,IntKind.min,IntKind.max,IntKind.signed,IntKind.bits]
end
section
open Go
def aij(τ:Nat→TI)(k:Nat)(d:Option Tmp)(ρ:Operand→AV)(σ:Nat→AObj)(K:List Nat→List Wr→Prop):Op→Prop
 | .buildSlice t len parts=>match len,parts.toList with
  |0,[]=>iN (τ t).elem fun e=>iI (dA (σ k)) (K [k] (.obj k (.arr e.2.1 [])::aI d (.psl k e.2.1 0))) False
  |_,_=>Mg τ k d ρ σ K (.buildSlice t len parts)
 |op=>Mg τ k d ρ σ K op
theorem ajF{τ:Nat→TI}{k:Nat}{d:Option Tmp}{ρ:Operand→AV}{σ:Nat→AObj}{K:List Nat→List Wr→Prop}{op:Op}(h:aij τ k d ρ σ K op):Mg τ k d ρ σ K op∨∃t e,op=.buildSlice t 0 #[]∧(τ t).elem=some e∧dA (σ k)=true∧K [k] (.obj k (.arr e.2.1 [])::aI d (.psl k e.2.1 0)):=by
 unfold aij at h;split at h
 ·rename_i t len parts;split at h
  ·rename_i hp;obtain⟨e,h1,h2⟩:=dD h;rcases bQ h2 with⟨h3,h4⟩|⟨_,h4⟩
   ·refine .inr ⟨t,e,?_,h1,h3,h4⟩
    simp_all
   grind
  grind
 grind
def Ib(P:Program)(τ:Nat→TI)(ops:List Oper):List Oper→Nat→List Eff→List AV→List AObj→(List Eff→List AV→List AObj→Prop)→Prop
 |[],_,es,t,h,K=>K es.reverse t h
 |o::l,k,es,t,h,K=>grd ops t
   (fun t=>match kZ o.op with
    |some (f,args)=>Ox (fun fid caps=>TT t args.toList fun vs=>fL (vs++caps) fun vs=>ACallU P fid vs o.dst t h k fun k' ro ws=>uE ws t h fun t' h'=>Ib P τ ops l k' (⟨bF ops.toArray o,ro,ws⟩::es) t' h' K) (bC t f)
    |none=>aij τ k o.dst (bC t) (obj? h) (fun rd ws=>uE ws t h fun t' h'=>ZG (ji o.op) (Ib P τ ops l k (⟨bF ops.toArray o,rd,ws⟩::es) t' h' K) (Ib P τ ops l (k+1) (⟨bF ops.toArray o,rd,ws⟩::es) t' h' K)) o.op)
   (fun t=>uE (aI o.dst (.tup [])) t h fun t' h'=>Ib P τ ops l k (⟨bF ops.toArray o,[],aI o.dst (.tup [])⟩::es) t' h' K) o.guard
theorem ahf{P:Program}{ops:List Oper}:∀(l:List Oper) (k:Nat) (es:List Eff) (t:List AV) (h:List AObj) (K:List Eff→List AV→List AObj→Prop),Ib P (TI.of P) ops l k es t h K→∃es' s',ATr P ops.toArray l es' ⟨t,h⟩ s'∧K (es.reverse++es') s'.tmps s'.heap:=by
 intro l
 induction l with
 |nil=>intro k es t h K hr;exact⟨[],⟨t,h⟩,.nil _,by simpa[Ib]using hr⟩
 |cons o l ih=>
  intro k es t h K hr;have fin:∀(e:Eff) (k':Nat),vH P ops.toArray o ⟨t,h⟩ e→(uE e.ws t h fun t' h'=>Ib P (TI.of P) ops l k' (e::es) t' h' K)→∃es' s',ATr P ops.toArray (o::l) es' ⟨t,h⟩ s'∧K (es.reverse++es') s'.tmps s'.heap:=fun e k' he hw=>by
   rw[QC]at hw;obtain⟨es',s',g1,g2⟩:=ih k' (e::es) _ _ K hw;exact⟨e::es',s',.cons he g1,by simpa using g2⟩
  rcases JD hr with⟨hc,h1⟩|⟨hc,h2⟩
  ·cases hcall:kZ o.op with
   |none=>
    rw[hcall]at h1;obtain⟨rd,ws,g1,g2⟩:∃rd ws,vH P ops.toArray o ⟨t,h⟩ ⟨bF ops.toArray o,rd,ws⟩∧uE ws t h fun t' h'=>ZG (ji o.op) (Ib P (TI.of P) ops l k (⟨bF ops.toArray o,rd,ws⟩::es) t' h' K) (Ib P (TI.of P) ops l (k+1) (⟨bF ops.toArray o,rd,ws⟩::es) t' h' K):=by
     rcases ajF h1 with h1|⟨tt,e,ho,he,hk,h1⟩
     ·obtain⟨rd,ws,g1,g2⟩:=Oo h1;exact⟨rd,ws,Ea (s:=⟨t,h⟩) hc g1,g2⟩
     ·refine⟨_,_,fun s' hs'=>.inl ⟨by rw[oI hs'.rs];exact hc,?_⟩,h1⟩;refine aef ho (e:=e.1) (by_:=e.2.2) he ?_;rw[hs'.ro k (by simp)];exact hk
    have g2:∃k',uE ws t h fun t' h'=>Ib P (TI.of P) ops l k' (⟨bF ops.toArray o,rd,ws⟩::es) t' h' K:=by
     cases hn:ji o.op with
     |zero=>simp only[hn]at g2;exact⟨_,g2⟩
     |succ m=>simp only[hn]at g2;exact⟨_,g2⟩
    obtain⟨k',g2⟩:=g2;exact fin ⟨bF ops.toArray o,rd,ws⟩ k' g1 g2
   |some p=>
    rw[hcall]at h1;simp only at h1;unfold Ox at h1;split at h1
    ·rename_i fid caps g1;simp only[QU,rC]at h1;replace h1:=h1.out;obtain⟨hok,ρ,ks,aargs,H,res,H',g2,g3,g4,g5,g6⟩:=h1;obtain⟨tt,ho⟩:=uZ hcall;exact fin _ _ (AZ (s:=⟨t,h⟩) hc ho g1 hok g2 g3 g4 g5) g6
    grind
  ·exact fin _ k (AO (s:=⟨t,h⟩) hc) h2
theorem AW.agW{P:Program}{τ:Nat→TI}{m id:Nat}{l:Array Oper}{dr:Bool}{Q:QT}{t:List AV}{h:List AObj}(hτ:τ=TI.of P)(hm:P.follows .mixedOrders=true)(r:Nat)
  (hr:rep r h fun h'=>Iq h 0 fun k=>Ib P τ l.toList l.toList k [] t h' fun es t h=>iI dr (iG l.toList es=true∧Q .normal t h) (Q .normal t h)):AW P m (.region id l dr) Q t h:=by
 subst hτ;unfold rep at hr;simp only[rC,G6]at hr;obtain⟨es,s',h1,h2⟩:=ahf _ _ _ _ _ _ hr;have hl:l=l.toList.toArray:=by simp
 rcases bQ h2 with⟨rfl,g1,g2⟩|⟨rfl,g⟩
 ·exact AW.of (dM.drawn (s:=⟨t,h⟩) r hm h1 g1 g2)
 ·exact AW.of (dM.region (s:=⟨t,h⟩) r h1.steps g)
end
end Abs
end Go.Proofs.YtkopaeklihhdlaaGreat

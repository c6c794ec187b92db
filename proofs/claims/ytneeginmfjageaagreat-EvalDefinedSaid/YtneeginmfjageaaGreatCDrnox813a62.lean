/-
  The count of draws never falls. Conditions: none; about the model's own steps, over any program.
-/
import GoSem.Step
import Derived.Laws.World
import Derived.Control
import Derived.Lone
import Derived.Calls
import Derived.Sort.Grow
import Derived.Deep.Draws
import Derived.Shelf.SlGeneric
import Derived.Shelf.SlIter.Nil
import Derived.Shelf.SortM.Plain
import Derived.Shelf.SortM.SortNone
import Derived.Ground.GgzProg
import Derived.Ground.SlgmProg
import Derived.Test.YtneeginmfjageaaGreatProg
import Derived.KernelRfl
import Derived.Tactics
import Derived.Tactics2
import Derived.WalkKit
import Derived.Laws.Externs
import Derived.Test.YtneeginmfjageaaGreatCD34oxdde4d6
set_option linter.all false
namespace Go.Proofs.YtneeginmfjageaaGreat
namespace Abs
section
open Go
def Rw{α:Type}:Result α→World
 | .ok _ w=>w
 | .halt _ w=>w
theorem azq{α:Type}:∀(x:Ask α) (w:World),w.drawn≤(w.ask x).2.drawn:=by
 intro x
 induction x with
 |done a=>intro w;exact qAd _
 |ask what range k ih=>
  unfold World.ask
  grind
theorem anJ(w:World)(c:Sys):w.drawn≤(w.sys c).2.drawn:=by
 have h:=azq (Kernel.perform c w.os) w;unfold World.sys
 grind
theorem asQ(w:World)(a:Addr)(n:Nat):(w.freeze a n).drawn=w.drawn:=by
 unfold World.freeze
 grind
theorem amy{P:Program}{w w':World}{a:Addr}{v:Value}{b:Bool}{l:List Addr}(h:w.farStore P a v b=.ok (w',l)):w'.drawn=w.drawn:=by
 unfold World.farStore at h;split at h
 ·split at h
  ·rename_i r e;cases h;simp only[World.viewStore,bind,Except.bind]at e
   repeat' first
    |(cases e;done)
    |(cases e;rfl)
    |split at e
  ·cases h
 ·cases h
theorem Od{α:Type}(P:Program):∀(s:Sem α) (w:World),w.drawn≤(Rw (s.run P w)).drawn:=by
 intro s
 induction s with
 |pure a=>intro w;exact qAd _
 |halt h=>intro w;exact qAd _
 |choose q k ih=>
  intro w;unfold Sem.run
  grind
 |sys c k ih=>intro w;unfold Sem.run;exact qAs (anJ w c) (ih _ _)
 |program k ih=>intro w;unfold Sem.run;exact ih _ w
 |mark m k ih=>intro w;unfold Sem.run;exact ih w
 |new o k ih=>intro w;unfold Sem.run;exact ih w.heap.size {w with heap:=w.heap.push o}
 |shape r k ih=>intro w;unfold Sem.run;exact ih _ w
 |frozen a k ih=>intro w;unfold Sem.run;exact ih _ w
 |freeze a n k ih=>intro w;unfold Sem.run;have:=ih (w.freeze a n);rw[asQ]at this;exact this
 |getObj r k ih=>
  intro w;unfold Sem.run;split
  ·exact qAd _
  ·grind
  ·exact qAd _
 |setObj r o k ih=>
  intro w;unfold Sem.run;split
  ·exact qAd _
  ·grind
  ·exact qAd _
 |load m a k ih=>
  intro w;unfold Sem.run;split
  ·grind
  ·split
   ·grind
   ·exact qAd _
 |store m a v k ih=>
  intro w;have key:w.drawn≤(Rw (match w.cell? a with
   |some _=>if w.frozen? a then .halt (.unsupported (.unsafePointer "a write to bytes that a string shares")) w else k.run P (w.setCell a v)
   |none=>match w.farStore P a v (m==.atomic)with
    | .ok (w,_)=>k.run P w
    | .error h=>.halt h w)).drawn:=by
   split
   ·split
    ·exact qAd _
    ·exact ih (w.setCell a v)
   ·split
    ·rename_i w' _ e;have:=ih w';rw[amy e]at this;exact this
    ·exact qAd _
  cases v<;>first|exact qAd _|exact key
def GW:GStep→World
 | .go _ w _=>w
 | .comm _ _ _ _ w _=>w
 | .spawn _ _ w _=>w
 | .count _ w _=>w
 | .timer _ _ w _=>w
 | .alone _ _ w _=>w
 | .newcoro _ _ _ w _=>w
 | .coroswitch _ _ _ w _=>w
 | .collect _ w _=>w
 | .watch _ w _=>w
 | .ended _ w _=>w
theorem Cy(es:Array Event)(s:GStep):GW (s.after es)=GW s:=by cases s<;>rfl
theorem Ls(p:Program)(main:Bool)(fr:Frame)(cs:List Frame)(d:Option Dying)(v:Value)(w:World):w.drawn≤(GW (doReturn p main fr cs d v w)).drawn:=by
 unfold doReturn
 repeat' first
  |exact qAd _
  |(rw[Cy])
  |split
theorem aoA(w:World)(fd:Nat)(b:ByteArray)(o:Outcome):w.drawn≤(GW (endWith w fd b o)).drawn:=by
 have h:=anJ w (.write fd b);unfold endWith;generalize w.sys (.write fd b)=x at h;obtain⟨r,w'⟩:=x;cases r<;>dsimp only<;>(repeat' first|exact h|split)
theorem atJ(p:Program)(listen:Bool)(hT:∀(fr:Frame) (m:String) (w:World),w.drawn≤(GW (endThrow fr m w)).drawn)(hF:∀(fr:Frame) (cs:List Frame) (d:Option Dying) (m:String) (w:World),w.drawn≤(GW (endFatal p fr cs d m w)).drawn)
  (hE:∀(fr:Frame) (cs:List Frame) (d:Option Dying) (g:Nat) (w:World),w.drawn≤(GW (early p fr cs d g w)).drawn) (fr:Frame) (cs:List Frame) (d:Option Dying) (s:Sem Next) (w:World):w.drawn≤(GW (stepG.apply p listen fr cs d s w)).drawn:=by
 have hr:=Od p s w;have hrt:(if listen then s.runT p w #[]else(s.run p w,#[])).1=s.run p w:=by
  split
  ·simp_all
  ·rfl
 unfold stepG.apply;dsimp only;generalize (if listen then s.runT p w #[]else(s.run p w,#[]))=x at hrt;obtain⟨r,es⟩:=x;simp only at hrt;subst hrt;dsimp only;rw[Cy];refine qAs hr ?_;cases s.run p w with
 |ok a w'=>
  simp only[Rw];cases a<;>(try dsimp only)<;>(repeat' first|exact qAd _|exact hT _ _ _|(exfalso;simp_all;done)|split)
 |halt h w'=>
  simp only[Rw];cases h<;>(try dsimp only)<;>(repeat' first|exact qAd _|exact hT _ _ _|exact hF _ _ _ _ _|exact hE _ _ _ _ _|(exfalso;simp_all;done)|(rename_i e;cases e;first|exact qAd _|exact hE _ _ _ _ _)|split)
theorem aw8{α:Type}(p:Program)(s:Sem α)(w:World)(es:Array Event):w.drawn≤(Rw (s.runT p w es).1).drawn:=by
 rw[Sem.runT_eq];exact Od p s w
theorem axp(p:Program)(main listen:Bool)(hA:∀(fr:Frame) (cs:List Frame) (d:Option Dying) (s:Sem Next) (w:World),w.drawn≤(GW (stepG.apply p listen fr cs d s w)).drawn)(fr:Frame)(cs:List Frame)(d:Option Dying)(w:World):w.drawn≤(GW (stepG.oper p listen fr cs d w)).drawn:=by
 unfold stepG.oper
 repeat' first|exact qAd _|exact hA _ _ _ _ _|split
theorem awG(p:Program)(main listen:Bool)(hA:∀(fr:Frame) (cs:List Frame) (d:Option Dying) (s:Sem Next) (w:World),w.drawn≤(GW (stepG.apply p listen fr cs d s w)).drawn)(fr:Frame)(cs:List Frame)(d:Option Dying)(w:World):w.drawn≤(GW (stepG.exec p main listen fr cs d w)).drawn:=by
 have hO:=axp p main listen hA;have hL:∀(j:Option Code) (l:Nat),w.drawn≤(GW (GStep.after (seen p fr.fn ((Instr.endRound l j).runT p w #[]).2) (match((Instr.endRound l j).runT p w #[]).1 with
   | .ok v w=>doReturn p main fr cs d v w
   | .halt _ w=>.ended (.stuck "range over a function: no such loop" (fr.pos p)) w))).drawn:=fun j l=>by
  rw[Cy];refine qAs (aw8 p (Instr.endRound l j) w #[]) ?_;split
  ·rename_i e;rw[e];exact Ls _ _ _ _ _ _ _
  ·rename_i e;rw[e];exact qAd _
 have hR:∀{α:Type} {x:Sem α} {r:Result α},x.run p w=r→w.drawn≤(Rw r).drawn:=fun e=>by rw[←e];exact Od p _ w
 have hLv:∀(j:Option Code) (g:GStep),w.drawn≤(GW g).drawn→w.drawn≤(GW (match fr.roundOf with
   |none=>g
   |some l=>GStep.after (seen p fr.fn ((Instr.endRound l j).runT p w #[]).2) (match((Instr.endRound l j).runT p w #[]).1 with
    | .ok v w=>doReturn p main fr cs d v w
    | .halt _ w=>.ended (.stuck "range over a function: no such loop" (fr.pos p)) w))).drawn:=fun j g hg=>by
  split
  ·exact hg
  ·exact hL _ _
 unfold stepG.exec;dsimp only;split
 all_goals(try exact qAd _)
 all_goals(try exact hA _ _ _ _ _)
 ·exact hLv none _ (qAd _)
 ·exact hLv (some .ret) _ (qAd _)
 ·split<;>exact qAd _
 ·rename_i id k _;cases exitTo id k with
  |none=>exact hLv (some (.exit id)) _ (qAd _)
  |some x=>exact qAd _
 ·rename_i l k _;cases gotoIn l k with
  |none=>exact hLv (some (.goto l)) _ (qAd _)
  |some x=>exact qAd _
 ·simp only[Sem.runT_eq,Cy];split
  ·rename_i e;exact qAs (hR e) (hA _ _ _ _ _)
  ·rename_i e;exact hR e
 ·simp only[Sem.runT_eq,Cy];split
  ·rename_i e;exact hR e
  ·rename_i e;exact hR e
  ·rename_i e;exact hR e
 ·rename_i row args k _;cases Extern.next row with
  |none=>exact qAd _
  |some e=>exact hA _ _ _ _ _
 ·split
  ·exact qAd _
  ·split
   ·rename_i e;exact hR e
   ·rename_i e;exact hR e
 ·split
  ·exact hO _ _ _ _
  ·exact qAd _
theorem K8(fr:Frame)(m:String)(w:World):w.drawn≤(GW (endThrow fr m w)).drawn:=qAd _
theorem rZ{α:Type}{p:Program}{w:World}{x:Sem α}{r:Result α}(e:x.run p w=r):w.drawn≤(Rw r).drawn:=by rw[←e];exact Od p _ w
theorem Xl(p:Program)(fr:Frame)(cs:List Frame)(d:Option Dying)(m:String)(w:World):w.drawn≤(GW (endFatal p fr cs d m w)).drawn:=by
 unfold endFatal;dsimp only;split
 ·rename_i e;exact rZ e
 ·rename_i e;exact rZ e
 ·rename_i e;exact rZ e
theorem O4(p:Program)(fr:Frame)(v:Value)(w:World):w.drawn≤(GW (endPrinting p fr v w)).drawn:=by
 unfold endPrinting;dsimp only;split
 ·exact K8 _ _ _
 ·exact qAd _
theorem aHC{c:Prop}[Decidable c]{n:Nat}{a b:GStep}(h1:n≤(GW a).drawn)(h2:n≤(GW b).drawn):n≤(GW (if c then a else b)).drawn:=by grind
theorem acV(p:Program)(fr:Frame)(cs:List Frame)(dy:Option Dying)(d:Deferred)(w:World):w.drawn≤(GW (callDeferred p fr cs dy d w)).drawn:=by
 refine aHC (qAd _) ?_
 ·have hr:=Od p (invoke d.target d.args) w;simp only[Sem.runT_eq,Cy];refine qAs hr ?_;cases(invoke d.target d.args).run p w with
  |ok a w'=>
   cases a
   case coroswitch c b=>cases b<;>exact qAd _
   case alone b v=>cases b<;>exact qAd _
   case recover=>
    dsimp only;split<;>exact qAd _
   all_goals exact qAd _
  |halt h w'=>
   cases h<;>(try dsimp only)<;>(repeat' first|exact qAd _|exact Xl _ _ _ _ _ _|exact K8 _ _ _|split)
theorem as2(p:Program)(main:Bool)(fr:Frame)(cs:List Frame)(dy:Option Dying)(w:World):w.drawn≤(GW (unwind p main fr cs dy w)).drawn:=by
 unfold unwind;split
 ·simp;split
  ·rename_i e;exact rZ e
  ·rename_i e;exact rZ e
 ·exact acV _ _ _ _ _ _
 ·split
  ·exact qAd _
  ·split
   ·exact qAd _
   ·split
    ·exact qAd _
    ·split
     ·split
      ·exact qAd _
      ·split
       ·rename_i e;exact rZ e
       ·rename_i e;exact rZ e
       ·rename_i e;exact rZ e
     ·split
      ·exact O4 _ _ _ _
      ·exact qAd _
  ·split
   ·exact Ls _ _ _ _ _ _ _
   ·simp only[Sem.runT_eq,Cy];split
    ·rename_i e;exact qAs (rZ e) (Ls _ _ _ _ _ _ _)
    ·rename_i e;exact rZ e
    ·rename_i e;exact rZ e
theorem atP(p:Program)(fr:Frame)(cs:List Frame)(dy:Option Dying)(g:Nat)(w:World):w.drawn≤(GW (early p fr cs dy g w)).drawn:=by
 have hn:∀w:World,w.drawn≤(GW (match w.heap[g]? with
  |some (.pending c elem)=>.go {frame:=fr,callers:=cs,status:=.running,dying:=dy} {w with heap:=w.heap.setIfInBounds g (.cells c elem)}
  |_=>.ended (.stuck "early: the variable does not wait" (fr.pos p)) w)).drawn:=fun w=>by
  split<;>exact qAd _
 unfold early;dsimp only
 repeat' first
  |exact qAd _
  |exact hn _
  |(rename_i e;exact rZ e)
  |(rename_i e;exact qAs (rZ e) (hn _))
  |split
theorem aoC(p:Program)(fr:Frame)(d:Dying)(f:Fatal)(w:World):w.drawn≤(GW (writeOn p fr d f w)).drawn:=by
 unfold writeOn;dsimp only;split
 ·exact qAd _
 ·simp only[Sem.runT_eq];split
  ·rename_i e;exact rZ (Prod.mk.inj e).1
  ·rename_i e;exact rZ (Prod.mk.inj e).1
  ·rename_i e;exact rZ (Prod.mk.inj e).1
  ·rename_i e;exact rZ (Prod.mk.inj e).1
theorem azV(p:Program)(fr:Frame)(d:Dying)(w:World):w.drawn≤(GW (die p fr d w)).drawn:=by
 unfold die;split
 ·exact aoC _ _ _ _ _
 ·split
  ·split
   ·exact qAd _
   ·exact aoA _ _ _ _
  ·dsimp only;split
   ·exact qAd _
   ·split
    ·rename_i e;exact rZ e
    ·rename_i e;exact rZ e
   ·simp only[Sem.runT_eq,Cy];split
    ·rename_i e;exact rZ e
    ·rename_i e;exact rZ e
    ·rename_i e;exact rZ e
    ·rename_i e;exact qAs (rZ e) (O4 _ _ _ _)
    ·exact qAd _
   ·exact qAd _
theorem auo(p:Program)(main:Bool)(g:Goroutine)(w:World)(b:Bool):w.drawn≤(GW (stepG p main g w b)).drawn:=by
 unfold stepG;dsimp only;split
 ·exact azV _ _ _ _
 ·exact awG p main b (atJ p b K8 (Xl p) (atP p)) _ _ _ _
 ·exact as2 _ _ _ _ _ _
theorem ae1(p:Program)(rest:Rest)(gs:Array Goroutine)(i:Nat)(g:Goroutine)(cases:Array CommCase)(blocking:Bool)
  (shape:CommShape) (w:World) (m':Machine) (h:(communicate p rest gs i g cases blocking shape w).1=.next m'):w.drawn≤m'.world.drawn:=by
 have hwa:∀w1,waitingAt rest cases w=some w1→w1.drawn=w.drawn:=fun w1 e=>by
  unfold waitingAt at e
  grind
 unfold communicate at h;dsimp only at h;split at h
 ·cases h
 ·split at h
  ·split at h
   ·split at h
    ·rename_i e;cases h;exact qBm (hwa _ e).symm
    ·cases h
   ·cases h;exact qAd _
  ·split at h
   ·cases h
   ·rename_i e;refine qAs (rZ e) ?_;simp only[Rw];clear e
    repeat' first
     |(cases h;done)
     |(cases h;exact qAd _)
     |(rename_i e;cases h;exact rZ e)
     |split at h
theorem ake(p:Program)(gs:Array Goroutine)(rest:Rest)(w:World)(m':Machine)
  (h:look p gs rest w=.next m'):w.drawn≤m'.world.drawn:=by
 unfold look at h;dsimp only at h;split at h
 ·split at h
  ·cases h
  ·split at h
   ·cases h
   ·split at h
    ·rename_i e;cases h;exact rZ e
    ·cases h
    ·cases h
 ·cases h
theorem aph(m:Machine)(op:TimerOp)(v:Value)(m':Machine)(h:timerOp m op=.ok (v,m')):m'.world.drawn=m.world.drawn:=by
 have hd:∀(w:World) (c:Nat),(drain w c).2.drawn=w.drawn:=fun w c=>by unfold drain;split<;>rfl
 have hr:∀(m:Machine) (k:Nat) (t:Timer) (a b:Nat),(retime m k t a b).2.world.drawn=m.world.drawn:=fun m k t a b=>by
  unfold retime
  grind
 have hn:∀(m0:Machine) (var:Addr) (f:Nat→Timer→Value×Machine),(∀k t,(f k t).2.world.drawn=m0.world.drawn)→∀v m1,timerOp.named m var f=.ok (v,m1)→m1.world.drawn=m0.world.drawn:=fun m0 var f hf v m1 e=>by
  unfold timerOp.named at e
  grind
 have ho:∀(var:Addr) (m1:Machine),timerOp.opened m var=some m1→m1.world.drawn=m.world.drawn:=fun var m1 e=>by
  unfold timerOp.opened at e
  grind
 cases op with
 |new t=>
  simp only[timerOp]at h
  repeat' first
   |(cases h;done)
   |(cases h;rfl)
   |split at h
 |stop var=>
  simp only[timerOp]at h
  grind
 |reset var a b=>
  simp only[timerOp]at h
  grind
 |deadline ctx r wr a=>
  cases h;rfl
theorem Wi(fr:Frame)(m:String)(w:World)(g:Goroutine)(w':World)(es:Array Event)(h:endThrow fr m w=.go g w' es):w'=w:=by
 cases h;rfl
theorem atI(p:Program)(m m':Machine)(i:Nat)(b:Bool)(h:(runT p m i b).1=.next m'):m.world.drawn≤m'.world.drawn:=by
 simp only[runT]at h
 revert h
 generalize m.gs.swapAt! _ _=gg;have hs:=auo p (i==0) gg.1 m.world b;generalize stepG p _ gg.1 m.world b=s at *;intro h;refine qAs hs ?_;cases s<;>simp only[GW]at *
 case ended=>cases h
 case comm=>exact ae1 _ _ _ _ _ _ _ _ _ _ h
 case go=>cases h;exact qAd _
 case spawn=>cases h;exact qAd _
 case count=>
  grind
 case alone=>cases h;exact qAd _
 case collect=>exact ake _ _ _ _ _ h
 case watch=>cases h;exact qAd _
 case newcoro=>cases h;exact qAd _
 case coroswitch=>
  split at h
  ·grind
  ·split at h
   ·rename_i e;cases h;rw[Wi _ _ _ _ _ _ e];exact qAd _
   ·cases h
  ·cases h
 case timer=>
  split at h
  ·rename_i e;cases h;exact qBm (aph _ _ _ _ e).symm
  ·split at h
   ·rename_i e;cases h;rw[Wi _ _ _ _ _ _ e];exact qAd _
   ·cases h
  ·cases h
  ·cases h
theorem atX(p:Program)(m m':Machine)(k:Nat)(h:serve p m k=.next m'):m'.world.drawn=m.world.drawn:=by
 unfold serve at h
 grind
def MW(n:Nat):Move→Prop
 | .goroutine m _=>n≤m.world.drawn
 | .machine (.next m) _=>n≤m.world.drawn
 | .machine (.ended _ _) _=>True
theorem MW.mono{a b:Nat}(h:a≤b){x:Move}(hx:MW b x):MW a x:=by
 cases x with
 |goroutine m i=>exact qAs h hx
 |machine s ops=>
  cases s with
  |next m=>exact qAs h hx
  |ended=>trivial
theorem Yh(p:Program)(rs:List Nat)(m:Machine):MW m.world.drawn (match(choose (.sched rs.length)).run p m.world with
   | .halt _ w=>.machine (.ended (.stuck "sched" "") w)
   | .ok k world=>
    if rs.length≤1 then .goroutine {m with world} (rs.getD k 0)else
    match(choose (.extern "sched.slice" 65536)).run p world with
    | .halt _ w=>.machine (.ended (.stuck "sched.slice" "") w)
    | .ok n world=>.goroutine {m with world,rest:={m.rest with slice:=if n=0 then none else some (rs.getD k 0,n)}} (rs.getD k 0)):=by
 split
 ·trivial
 ·rename_i e;have e:=rZ e;split
  ·exact e
  ·split
   ·trivial
   ·rename_i e2;exact qAs e (rZ e2)
theorem Vo(p:Program)(m:Machine):MW m.world.drawn (askOn p m):=by
 unfold askOn;dsimp only;split
 ·trivial
 ·rename_i k w1 e;have e:m.world.drawn≤w1.drawn:=rZ e;split
  ·generalize hs:serve p _ _=s;cases s with
   |next m'=>show m.world.drawn≤m'.world.drawn;rw[atX _ _ _ _ hs];exact e
   |ended=>trivial
  ·split
   ·split
    ·exact e
    ·split
     ·exact e
     ·split<;>trivial
   ·split
    ·exact MW.mono e (Yh p _ {m with world:=w1})
    ·split
     ·trivial
     ·rename_i e2;exact MW.mono (qAs e (rZ e2)) (Yh p _ {m with world:=_})
     ·rename_i e2;exact qAs e (rZ e2)
     ·rename_i e2;exact MW.mono (qAs e (rZ e2)) (Yh p _ (Machine.advanceTo {m with world:=_} _))
theorem aj0(p:Program)(m:Machine):MW m.world.drawn (ask p m):=by
 unfold ask;split
 ·split
  ·trivial
  ·rename_i e;have e:=rZ e;split
   ·rename_i h;exact MW.mono (qAs e (ake _ _ _ _ _ h)) (Vo p _)
   ·rename_i h;generalize look p m.gs m.rest _=s at h;cases s with
    |next m'=>exact(h m' rfl).elim
    |ended=>trivial
  ·rename_i e;have e:=rZ e;exact MW.mono e (Vo p {m with world:=_})
 ·exact Vo p m
theorem awt(p:Program)(m:Machine):MW m.world.drawn (move p m):=by
 unfold move;split
 ·split
  ·exact qAd _
  ·trivial
 ·split
  ·split
   ·exact qAd _
   ·exact aj0 p {m with rest:=_}
  ·exact aj0 p m
theorem ax7(p:Program)(m m':Machine)(h:step p m=.next m'):m.world.drawn≤m'.world.drawn:=by
 unfold Go.step Go.stepT at h;have hm:=awt p m;generalize move p m=x at h hm;cases x with
 |goroutine m1 i=>exact qAs hm (atI p m1 m' i true h)
 |machine s ops=>
  subst h;exact hm
theorem Yl(p:Program):∀(n:Nat) (m m':Machine),runN p n m=.next m'→m.world.drawn≤m'.world.drawn
 |0,m,m',h=>by cases h;exact qAd _
 |n+1,m,m',h=>by
  simp only[runN]at h;cases hs:step p m with
  |next m1=>rw[hs]at h;exact qAs (ax7 p m m1 hs) (Yl p n m1 m' h)
  |ended o w=>rw[hs]at h;cases h
theorem Calls.drawn{P:Program}{f:FuncId}{args:Array Value}{w:World}{R:Ending→World→Prop}(h:Calls P f args w R)(hR:∀w',¬R .outgrown w'):Calls P f args w fun e w'=>R e w'∧w.drawn≤w'.drawn:=by
 intro cs;obtain⟨e,w',fr,hr,hc,hf,hl⟩:=h cs;refine⟨e,w',fr,⟨hr,?_⟩,hc,hf,hl⟩;cases e with
 |outgrown=>exact(hR w' hr).elim
 |returned v=>obtain⟨n,hn⟩:=hc;exact Yl P n _ _ hn
 |panicked c=>obtain⟨n,hn⟩:=hc;exact Yl P n _ _ hn
end
section
open Go Go.Sort
theorem asS{w w':World}(hs:w.heap.size≤w'.heap.size)(hk:∀b:Nat,b<w.heap.size→w'.heap[b]? =w.heap[b]?)(hd:w.drawn≤w'.drawn)(ho:w'.os=w.os)(ht:w'.tape=w.tape)(hp:w'.output=w.output):∃q os',w'=grow (w.drewN q) os':=by
 refine⟨w'.drawn - w.drawn,w'.heap.extract w.heap.size w'.heap.size,?_⟩;cases w with
 |mk heap tape drawn os output=>
 cases w' with
 |mk heap' tape' drawn' os' output'=>
  simp only at hs hk hd ho ht hp;subst ho ht hp;have hh:heap'=heap++heap'.extract heap.size heap'.size:=by
   grind
  have hdr:drawn'=drawn+(drawn' - drawn):=by omega
  show World.mk heap' tape' drawn' os' output'=World.mk (heap++heap'.extract heap.size heap'.size) tape' (drawn+(drawn' - drawn)) os' output'
  grind
theorem at_nil(l:Nat):at? [] l=none:=by cases l<;>rfl
theorem ac1(ak:bU)(w:World)(hpv:∀b o,ak b o→b<w.heap.size):Entry [] ak [] w where
 klen:=rfl
 resv:=fun l _=>at_nil l
 obj:=fun l b h=>by rw[at_nil]at h;cases h
 apart:=fun l l' b h=>by rw[at_nil]at h;cases h
 bound:=fun l b h=>by rw[at_nil]at h;cases h
 pvlt:=hpv
 pvdis:=fun b o l _ h=>by rw[at_nil]at h;cases h
theorem ahx(ak:bU)(H:List AObj)(b o:Nat):aH ak [] H b o↔ak b o:=by
 constructor
 ·rintro(h|⟨l,h,_⟩)
  ·exact h
  ·rw[at_nil]at h;cases h
 ·exact .inl
theorem quiet_of{P:Program}{f:Nat}{args:List AV}{res:AV}(hA:eH P f args [] res [])(w:World)(ak:bU)(hpv:∀b o,ak b o→b<w.heap.size)(vs:List Value)(hl:vs.length=args.length)
  (hr:∀j,j<args.length→Rel w [] ak (args.getD j .unk) (vs.getD j undef)) (V:Value) (hV:∀w' κ pv v,Rel w' κ pv res v→v=V):
  Calls P f vs.toArray w fun e w'=>e=.returned V∧∃q os',w'=grow (w.drewN q) os':=by
 have hpve:aH ak [] []=ak:=by funext b o;exact propext (ahx ak [] b o)
 have h:=Calls.drawn (hA [] ak w vs (ac1 ak w hpv) hl (by rw[hpve];exact hr)) (by rintro w' ⟨v,κ',h,_⟩;cases h);refine h.mono ?_;rintro e w' ⟨⟨v,κ',rfl,hL,hv⟩,hd⟩;refine⟨by rw[hV _ _ _ _ hv],asS hL.ny.size (fun b hb=>hL.kept b hb fun l h=>by rw[at_nil]at h;cases h) hd hL.os hL.tape hL.output⟩
end
end Abs
end Go.Proofs.YtneeginmfjageaaGreat
namespace Go.Proofs
open Go.Shelf
def Tryz.afH:Go.Shelf.Ren:=⟨fun|7=>195|10=>277|n=>n,fun|23=>107|26=>9|3=>4|28=>196|0=>0|27=>195|33=>133|4=>4|n=>n,fun|n=>n⟩
set_option maxRecDepth 100000 in
theorem Tryz.aED:Go.Proofs.SlLaysZ.n7 Tryz.prog Tryz.afH:={
 mixed:=by kernel_rfl
 f7:=⟨Tryz.f195.name,by decide,Tryz.func195.trans (congrArg some (by kernel_rfl))⟩
 f10:=⟨Tryz.f277.name,by decide,Tryz.func277.trans (congrArg some (by kernel_rfl))⟩
 t0:=Tryz.underlying0
 a0:=Tryz.isAgg0
 z0:=Tryz.sizeOf0
 v0:=Tryz.zeroValue0
 t4:=Tryz.underlying4
 a4:=Tryz.isAgg4
 z4:=Tryz.sizeOf4
 v4:=Tryz.zeroValue4
 t23:=Tryz.underlying107
 a23:=Tryz.isAgg107
 z23:=Tryz.sizeOf107
 v23:=Tryz.zeroValue107
 t26:=Tryz.underlying9
 a26:=Tryz.isAgg9
 z26:=Tryz.sizeOf9
 v26:=Tryz.zeroValue9
 t27:=Tryz.underlying195
 a27:=Tryz.isAgg195
 z27:=Tryz.sizeOf195
 v27:=Tryz.zeroValue195
 t28:=Tryz.underlying196
 a28:=Tryz.isAgg196
 z28:=Tryz.sizeOf196
 v28:=Tryz.zeroValue196
 t33:=Tryz.underlying133
 a33:=Tryz.isAgg133
 z33:=Tryz.sizeOf133
 v33:=Tryz.zeroValue133}
def Tryz.ZJ:Go.Shelf.Ren:=⟨fun|6=>194|8=>275|9=>276|11=>321|13=>200|12=>322|23=>286|24=>287|14=>339|15=>340|16=>341|17=>342|18=>343|19=>344|20=>345|21=>346|22=>347|25=>349|26=>324|27=>325|28=>350|29=>351|30=>352|31=>353|n=>n,fun|26=>9|28=>196|24=>61|0=>0|3=>3|37=>202|48=>243|50=>245|4=>4|40=>237|39=>236|45=>205|5=>5|9=>9|51=>257|55=>261|57=>273|58=>171|33=>133|n=>n,fun|n=>n⟩
set_option maxRecDepth 100000 in
theorem Tryz.ay5:Go.Proofs.SlLaysZ.n6 Tryz.prog Tryz.ZJ:={
 mixed:=by kernel_rfl
 f6:=⟨Tryz.f194.name,by decide,Tryz.func194.trans (congrArg some (by kernel_rfl))⟩
 f8:=⟨Tryz.f275.name,by decide,Tryz.func275.trans (congrArg some (by kernel_rfl))⟩
 f11:=⟨Tryz.f321.name,by decide,Tryz.func321.trans (congrArg some (by kernel_rfl))⟩
 t0:=Tryz.underlying0
 a0:=Tryz.isAgg0
 z0:=Tryz.sizeOf0
 v0:=Tryz.zeroValue0
 t24:=Tryz.underlying61
 a24:=Tryz.isAgg61
 z24:=Tryz.sizeOf61
 v24:=Tryz.zeroValue61
 t26:=Tryz.underlying9
 a26:=Tryz.isAgg9
 z26:=Tryz.sizeOf9
 v26:=Tryz.zeroValue9
 t28:=Tryz.underlying196
 a28:=Tryz.isAgg196
 z28:=Tryz.sizeOf196
 v28:=Tryz.zeroValue196
 i26:=by kernel_rfl}
def Tryz.atw:Go.Shelf.Ren:=⟨fun|6=>276|8=>200|9=>322|19=>286|20=>287|21=>339|22=>340|23=>341|24=>342|25=>343|26=>344|27=>345|28=>346|29=>347|36=>349|31=>324|32=>325|37=>350|38=>351|39=>352|41=>353|n=>n,fun|27=>61|29=>9|3=>3|32=>202|26=>61|0=>0|44=>243|46=>245|4=>4|36=>237|35=>236|41=>205|5=>5|9=>9|53=>257|57=>261|63=>273|64=>171|n=>n,fun|n=>n⟩
set_option maxRecDepth 100000 in
theorem Tryz.avU:Go.Proofs.SlLaysM.n6 Tryz.prog Tryz.atw:={
 mixed:=by kernel_rfl
 f6:=⟨Tryz.f276.name,by decide,Tryz.func276.trans (congrArg some (by kernel_rfl))⟩
 f8:=Tryz.func200.trans (congrArg some (by kernel_rfl))
 f9:=⟨Tryz.f322.name,by decide,Tryz.func322.trans (congrArg some (by kernel_rfl))⟩
 f19:=Tryz.func286.trans (congrArg some (by kernel_rfl))
 f20:=Tryz.func287.trans (congrArg some (by kernel_rfl))
 f21:=⟨Tryz.f339.name,by decide,Tryz.func339.trans (congrArg some (by kernel_rfl))⟩
 f22:=⟨Tryz.f340.name,by decide,Tryz.func340.trans (congrArg some (by kernel_rfl))⟩
 f23:=⟨Tryz.f341.name,by decide,Tryz.func341.trans (congrArg some (by kernel_rfl))⟩
 f24:=⟨Tryz.f342.name,by decide,Tryz.func342.trans (congrArg some (by kernel_rfl))⟩
 f25:=⟨Tryz.f343.name,by decide,Tryz.func343.trans (congrArg some (by kernel_rfl))⟩
 f26:=⟨Tryz.f344.name,by decide,Tryz.func344.trans (congrArg some (by kernel_rfl))⟩
 f27:=⟨Tryz.f345.name,by decide,Tryz.func345.trans (congrArg some (by kernel_rfl))⟩
 f28:=⟨Tryz.f346.name,by decide,Tryz.func346.trans (congrArg some (by kernel_rfl))⟩
 f29:=⟨Tryz.f347.name,by decide,Tryz.func347.trans (congrArg some (by kernel_rfl))⟩
 f31:=Tryz.func324.trans (congrArg some (by kernel_rfl))
 f32:=Tryz.func325.trans (congrArg some (by kernel_rfl))
 f36:=⟨Tryz.f349.name,by decide,Tryz.func349.trans (congrArg some (by kernel_rfl))⟩
 f37:=⟨Tryz.f350.name,by decide,Tryz.func350.trans (congrArg some (by kernel_rfl))⟩
 f38:=⟨Tryz.f351.name,by decide,Tryz.func351.trans (congrArg some (by kernel_rfl))⟩
 f39:=⟨Tryz.f352.name,by decide,Tryz.func352.trans (congrArg some (by kernel_rfl))⟩
 f41:=⟨Tryz.f353.name,by decide,Tryz.func353.trans (congrArg some (by kernel_rfl))⟩
 t0:=Tryz.underlying0
 a0:=Tryz.isAgg0
 z0:=Tryz.sizeOf0
 v0:=Tryz.zeroValue0
 t3:=Tryz.underlying3
 a3:=Tryz.isAgg3
 z3:=Tryz.sizeOf3
 v3:=Tryz.zeroValue3
 t4:=Tryz.underlying4
 a4:=Tryz.isAgg4
 z4:=Tryz.sizeOf4
 v4:=Tryz.zeroValue4
 t5:=Tryz.underlying5
 a5:=Tryz.isAgg5
 z5:=Tryz.sizeOf5
 v5:=Tryz.zeroValue5
 t9:=Tryz.underlying9
 a9:=Tryz.isAgg9
 z9:=Tryz.sizeOf9
 v9:=Tryz.zeroValue9
 t26:=Tryz.underlying61
 a26:=Tryz.isAgg61
 z26:=Tryz.sizeOf61
 v26:=Tryz.zeroValue61
 t27:=Tryz.underlying61
 a27:=Tryz.isAgg61
 z27:=Tryz.sizeOf61
 v27:=Tryz.zeroValue61
 t29:=Tryz.underlying9
 a29:=Tryz.isAgg9
 z29:=Tryz.sizeOf9
 v29:=Tryz.zeroValue9
 t32:=Tryz.underlying202
 a32:=Tryz.isAgg202
 z32:=Tryz.sizeOf202
 v32:=Tryz.zeroValue202
 t35:=Tryz.underlying236
 a35:=Tryz.isAgg236
 z35:=Tryz.sizeOf236
 v35:=Tryz.zeroValue236
 t36:=Tryz.underlying237
 a36:=Tryz.isAgg237
 z36:=Tryz.sizeOf237
 v36:=Tryz.zeroValue237
 t41:=Tryz.underlying205
 a41:=Tryz.isAgg205
 z41:=Tryz.sizeOf205
 v41:=Tryz.zeroValue205
 t44:=Tryz.underlying243
 a44:=Tryz.isAgg243
 z44:=Tryz.sizeOf243
 v44:=Tryz.zeroValue243
 t46:=Tryz.underlying245
 a46:=Tryz.isAgg245
 z46:=Tryz.sizeOf245
 v46:=Tryz.zeroValue245
 t53:=Tryz.underlying257
 a53:=Tryz.isAgg257
 z53:=Tryz.sizeOf257
 v53:=Tryz.zeroValue257
 t57:=Tryz.underlying261
 a57:=Tryz.isAgg261
 z57:=Tryz.sizeOf261
 v57:=Tryz.zeroValue261
 t63:=Tryz.underlying273
 a63:=Tryz.isAgg273
 z63:=Tryz.sizeOf273
 v63:=Tryz.zeroValue273
 t64:=Tryz.underlying171
 a64:=Tryz.isAgg171
 z64:=Tryz.sizeOf171
 v64:=Tryz.zeroValue171}
end Go.Proofs
namespace Go.Proofs.YtneeginmfjageaaGreat
namespace Abs
section
open Go Go.Proofs Go.RowKit Go.Maps Go.Sort Go.Shelf
theorem aCV(m:Nat):AnyZ.SortsIn Tryz.prog Tryz.ZJ Fence.wide m:=
 ⟨fun blk off cap ss W hH hblk hsz=>callsIn_wide.2 (AnyM.slices_Sort_string Tryz.avU blk off cap ss W hH hblk hsz),
  fun p cap W=>callsIn_wide.2 (AnyM.slices_Sort_string_none Tryz.avU p cap W)⟩
set_option maxHeartbeats 1000000 in
theorem axv(b bm nn:Nat)(D0:DataW Unit)(R:Value→Option (DataW Unit×List MemPlace))(w:World)(hbm:bm<w.heap.size)(hc:w.cell? ⟨bm,0,none⟩=some (.map (some b)))(hown:w.ownsMap Tryz.prog 9 R b nn D0)(hmax:Maps.size D0≤maxLen)(hbytes:Maps.size D0*16≤140737488355328):
  CallsIn Fence.wide 5 Tryz.prog 194 #[.func (.func 277) #[] #[.pointer (some ⟨bm,0,none⟩)]] w fun e w'=>∃(v:Value) (ss:List (List UInt8)),e=.returned v∧ss.Perm (strKeys D0)∧
   w'.ownsRow w.heap.size 9 1 v ss.length ((ss.mergeSort (fun x y=>decide (x≤y))).map encStr)∧(v=.slice none 0 0↔ss=[])∧Below w.heap.size w w':=by
 have hseq:SeqGives Fence.wide 2 Tryz.prog 277 #[.pointer (some ⟨bm,0,none⟩)] encStr (fun ss=>ss.Perm (strKeys D0)) (Maps.size D0) w:=
  AnyZ.keys_gives (ρ:=Tryz.afH) {Tryz.aED with} Fence.wide _ trivial rfl (by omega) bm b nn D0 _ hbm hc hown
 exact AnyZ.sorted_in Tryz.ay5 Fence.wide 5 trivial trivial trivial trivial rfl (by omega) (aCV _) (enters_of Tryz.func276 (by kernel_rfl) rfl) 277 #[.pointer (some ⟨bm,0,none⟩)] trivial (enters_of Tryz.func277 (by kernel_rfl) rfl) _ _ hmax hbytes _ hseq
theorem Leave.same{κ:aS}{ak:bU}{H:List AObj}{w w':World}(he:Entry κ ak H w)(hb:Go.RowKit.Below w.heap.size w w'):Leave κ κ ak H H w w':=by
 have hcell:∀b off u,w.cell? ⟨b,off,none⟩=some u→w'.cell? ⟨b,off,none⟩=some u:=fun b off u hc=>by
  have hlt:=lt_of_cell hc;simp only[World.cell?,hb.block b hlt]at hc⊢;exact hc
 have hevo:Evo (aH ak κ H) w w':=⟨hb.size,fun b off u _ hc=>hcell b off u hc,fun b c e z hx=>⟨c,by rw[hb.block b (qBi.1 hx).1];exact hx,rfl⟩⟩;exact⟨he.klen,qAd _,dL.refl _,he.resv,fun l b h1 h2=>(he.obj l b h1 h2).mono (hb.block b (he.bound l b h1)) hevo (dL.refl _) (fun _ _ h _=>h),
  fun l b h1 h2=>.inr ⟨l,h1,h2⟩,he.apart,fun l b h1=>qAB (he.bound l b h1) hb.size,fun b hlt _=>hb.block b hlt,hevo,fun _ _ h _=>h,hb.os,hb.tape,hb.output⟩
theorem avp{κ:aS}{ak:bU}{H:List AObj}{w:World}(he:Entry κ ak H w){b o:Nat}(h:aH ak κ H b o):b<w.heap.size:=by
 rcases h with h|⟨l,h1,_⟩
 ·exact he.pvlt b o h
 ·exact he.bound l b h1
theorem apT(H:List AObj)(p m:Nat)(es:List (List UInt8×AV))(hp:obj? H p=.box [.mapr m])(hm:obj? H m=.mp es)(hb16:es.length*16≤140737488355328):
  eH Tryz.prog 194 [.func 277 [.ptr p 0]] H (.slice (((es.map (·.1)).mergeSort leS).map encS) .shared) H:=by
 intro κ ak w vs hen hlen hr;have h0:=hr 0 (by simp)
 match vs,hlen with
 |[v],_=>
 simp only[List.getD,qAG,qAw]at h0;obtain⟨cs,rfl,hcl,hcr⟩:=h0.LD
 match cs,hcl with
 |[cp],_=>
 have h1:=hcr 0 (by simp);simp only[List.getD,qAG,qAw]at h1;obtain⟨bm,rfl,hbm⟩:=h1.sD;have ho:=hen.obj p bm hbm (by rw[hp];trivial);rw[hp]at ho;obtain⟨c,el,g1,g2,g3⟩:=ho;have h2:=g3 0 (by simp);simp only[List.getD,qAG,qAw]at h2;have hcell:w.cell? ⟨bm,0,none⟩=some (c.getD 0 undef):=by
  have:0<c.size:=by rw[g2];simp
  simp[World.cell?,g1,Array.getD,this]
 generalize c.getD 0 undef=cv at h2 hcell;cases h2 with
 |@mapr _ b hb=>
 have hmo:=hen.obj m b hb (by rw[hm];trivial);rw[hm]at hmo;obtain⟨ms,clock,k1,k2,k3,k4⟩:=hmo;have k31:es.length≤140737488355328:=by have:=k3.1;rwa[qAi]at this
 have hk9:Tryz.prog.underlying 9=some .string:=by kernel_rfl
 let R:Value→Option (DataW Unit×List MemPlace):=fun _=>some (.lit (.bool true),[])
 have hkeys:∀j,(hj:j<ms.size)→keyOf Tryz.prog 9 ms[j].key=some (.string (es.getD j ([],.unk)).1):=fun j hj=>by
  have h5:=(k4 j (by omega)).1;have e:ms.getD j default=ms[j]:=by simp[Array.getD,hj]
  rw[e]at h5;rw[h5,Go.WideMaps.keyOf_string_mk hk9];have hmem:(es.getD j ([],.unk)).1∈es.map (·.1):=by
   have hj':j<es.length:=by omega
   rw[List.getD,qAc hj',qAw];exact qAJ.2 ⟨_,qAO _,rfl⟩
  have:=k3.2.2 _ hmem;simpa[ByteArray.size,maxLen]using this
 have hrd:∀j,(hj:j<ms.size)→WideElems.rd Tryz.prog 9 R ms[j]=some (.string (es.getD j ([],.unk)).1,.lit (.bool true)):=fun j hj=>by
  simp only[WideElems.rd,hkeys j hj,qAb,R,qAx]
 have hown:w.ownsMap Tryz.prog 9 R b es.length (.map ((ms.toList.map (WideElems.rg Tryz.prog 9 R)).foldr DataW.insert [])):=by
  refine⟨ms,clock,k1,⟨?_,k3.2.1,fun x hx=>?_⟩,by omega,rfl⟩
  ·simp only[maxLen];omega
  ·obtain⟨j,hj,rfl⟩:=qBy hx;simp only[qBZ]at hj;exact⟨_,by simpa using hrd j hj⟩
 have hperm:(strKeys (.map ((ms.toList.map (WideElems.rg Tryz.prog 9 R)).foldr DataW.insert []))).Perm (es.map (·.1)):=by
  simp only[strKeys];refine((WideShapes.sorted_perm _).map _).trans ?_;have e:(ms.toList.map (WideElems.rg Tryz.prog 9 R)).map (fun p=>strOf p.1)=es.map (·.1):=by
   apply qBO
   ·simp[k2]
   ·intro j h1 h2;simp only[qAi,qBZ]at h1 h2;simp only[qDo,qDF];rw[WideElems.rg_of (hrd j h1)];simp[strOf,List.getD,qAc h2]
  rw[e]
 have hsz:Maps.size (H:=Unit) (.map ((ms.toList.map (WideElems.rg Tryz.prog 9 R)).foldr DataW.insert []))=es.length:=by
  rw[size_eq,DataW.length_sorted];simp[k2]
 have hcall:=callsIn_wide.1 (axv b bm es.length _ R w (hen.bound p bm hbm) hcell hown (by rw[hsz];simp only[maxLen];omega) (by rw[hsz];exact hb16));refine hcall.mono ?_;rintro e w' ⟨v,ss,rfl,hss,hrow,_,hbel⟩;refine⟨v,κ,rfl,Leave.same hen hbel,?_⟩;have hsort:ss.mergeSort (fun x y=>decide (x≤y))=(es.map (·.1)).mergeSort leS:=mergeSort_of_perm (hss.trans hperm);rw[hsort]at hrow;generalize hL:(es.map (·.1)).mergeSort leS=L at hrow;have hLl:L.length=es.length:=by rw[←hL];simp
 have hssl:ss.length=es.length:=by have:=(hss.trans hperm).length_eq;simpa using this
 have hLk:∀x∈L,x.length≤9223372036854775807:=fun x hx=>k3.2.2 x (by rw[←hL]at hx;exact(List.mergeSort_perm _ _).mem_iff.1 hx);obtain⟨hrl,hrow⟩:=hrow;rcases hrow with⟨rfl,hz⟩|⟨g,cap,cur,rfl,hbase,hg,hcap,_,hcur,htake⟩
 ·have:L=[]:=qAD.1 (by omega);subst this;have:=Rel.slice (w:=w') (κ:=κ) (pv:=aH ak κ H) (es:=[]) (tag:=.shared) (a:=none) (cap:=0) 0 0 1 (fun _ _=>undef) (fun i h=>by cases h) (fun h=>(h rfl).elim) (qAd _) (by simp) (fun i j h=>by cases h) (fun i j h=>by cases h) (fun i j h=>by cases h) trivial;simpa using this
 ·have hgi:∀i,i<L.length→w'.cell? ⟨g,0+(i*1+0),none⟩=some (encStr (L.getD i [])):=fun i hi=>by
   have hcs:i<cur.size:=by omega
   have e1:cur[i]=encStr (L.getD i []):=by
    have:(cur.toList.take (ss.length*1))[i]? =some (encStr (L.getD i [])):=by
     rw[htake,qAE,qAc hi];simp[List.getD,qAc hi]
    rw[qBq,if_pos (by omega)]at this;simpa[hcs]using this
   have e0:0+(i*1+0)=i:=by omega
   rw[e0];simp[World.cell?,hg,hcs,e1]
  have hlen2:(L.map encS).length=es.length:=by simp[hLl]
  have:=Rel.slice (w:=w') (κ:=κ) (pv:=aH ak κ H) (es:=L.map encS) (tag:=.shared) (a:=some ⟨g,0,none⟩) (cap:=cap) g 0 1 (fun i _=>encStr (L.getD i []))
   (fun i hi=>by simp only[qAi]at hi;simp[List.getD,qAc hi,encS]) (fun _=>rfl) (by omega) (by omega)
   (fun i j _ _ hpv=>by have:=avp hen hpv;omega)
   (fun i j hi hj=>by
    simp only[qAi]at hi;have hj0:j=0:=by omega
    subst hj0;exact hgi i hi)
   (fun i j hi hj=>by
    simp only[qAi]at hi;have hj0:j=0:=by omega
    subst hj0;have e:((L.map encS).getD i []).getD 0 .unk=.str (L.getD i []):=by simp[List.getD,qAc hi,encS]
    rw[e];refine .str (hLk _ ?_);rw[List.getD,qAc hi];exact qAO _) trivial
  rw[hlen2]at this;rw[hssl];exact this
end
section
open Go Go.Proofs
theorem aFq:mQ Tryz.prog 194=true:=by kernel_rfl
theorem SC(n:Nat)(p0:List (Str×Bool))(r:List Str)(h:ow n p0=some r):
  eH Tryz.prog 194 [.func 277 [.ptr 0 0]] [.box [.mapr 1],.mp (List.map (fun p=>(p.1,(fun(x:Bool)=>.bool x) p.2)) p0)] (.slice (List.map encS r) .shared) [.box [.mapr 1],.mp (List.map (fun p=>(p.1,(fun(x:Bool)=>.bool x) p.2)) p0)]:=by
 unfold ow at h;split at h
 ·rename_i hl;have e:=Option.some.inj h;subst e;have:=apT [.box [.mapr 1],.mp (List.map (fun p=>(p.1,(fun(x:Bool)=>.bool x) p.2)) p0)] 0 1 _ rfl rfl (by simpa using hl);simpa[qBh,qCv]using this
 ·cases h
theorem aGp:mQ Tryz.prog 47=true:=by kernel_rfl
set_option maxHeartbeats 1000000 in
set_option maxRecDepth 100000 in
theorem aok(a b:ByteArray)(w:World):Calls Tryz.prog 97 #[.string a,.string b] w fun e w'=>e=.returned (.int .i64 (Lib.compareBytes a.data.toList b.data.toList))∧w'=w:=by
 go_enter Tryz.func97,Tryz.ntmps97
 go_wp2
 rw[run_callFunc_extern Tryz.func173 (by kernel_rfl) (by kernel_rfl) (by kernel_rfl) (e:=Extern.BytealgCompare.compare) (by kernel_rfl),Lib.run_compareString];simp only[Result.andThen];rw[Oper.upon_value]
 go_wp2
 go_ret
 exact⟨rfl,rfl⟩
set_option maxHeartbeats 1000000 in
set_option maxRecDepth 100000 in
theorem aoy(a b:ByteArray)(w:World):Calls Tryz.prog 47 #[.string a,.string b] w fun e w'=>e=.returned (.int .i64 (Lib.compareBytes a.data.toList b.data.toList))∧w'=w:=by
 go_enter Tryz.func47,Tryz.ntmps47
 go_wp2_with (go_at_call 97;refine(aok _ _ _).mono ?_;rintro e w' ⟨rfl,rfl⟩)
 go_ret
 exact⟨rfl,rfl⟩
theorem ano:∀a b:Str,Lib.compareBytes a b= -1∨Lib.compareBytes a b=0∨Lib.compareBytes a b=1
 |[],[]=>by simp[Lib.compareBytes]
 |[],_::_=>by simp[Lib.compareBytes]
 |_::_,[]=>by simp[Lib.compareBytes]
 |a::x,b::y=>by
  have:=ano x y;simp only[Lib.compareBytes]
  grind
theorem ab5(n:Nat)(p0:Str)(p1:Str)(r:Int)(h:strings_Compare n p0 p1=some r):eH Tryz.prog 47 [.str p0,.str p1] [] (.int .i64 r) []:=by
 have e:=Option.some.inj h;subst e;intro κ ak w vs hen hlen hr
 match vs,hlen with
 |[v,u],_=>
 have h0:=hr 0 (by simp);have h1:=hr 1 (by simp);simp only[List.getD,qAG,qBp,qAw]at h0 h1;obtain⟨e0,_⟩:=h0.BK;obtain⟨e1,_⟩:=h1.BK;subst e0 e1;refine(aoy _ _ w).mono ?_;rintro e w' ⟨rfl,rfl⟩;refine⟨_,κ,rfl,Leave.same hen (qCO _ _),?_⟩;refine .int ?_;rcases ano p0 p1 with h|h|h<;>simp[h,sj,IntKind.min,IntKind.max,IntKind.signed,IntKind.bits]
end
end Abs
end Go.Proofs.YtneeginmfjageaaGreat

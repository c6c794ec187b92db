/-
  The count of draws never falls. Conditions: none; about the model's own steps, over any program.
-/
import GoSem.Step
import Derived.Laws.World
import Derived.Control
import Derived.Lone
import Derived.Calls
import Derived.Sort.Grow
import Derived.Deep.Draws
import Derived.KernelRfl
import Derived.Test.YthgdaonechbgmaaGreatCHaxox94e35b
set_option linter.all false
namespace Go.Proofs.YthgdaonechbgmaaGreat
namespace Abs
section
open Go
def Rw{α:Type}:Result α→World
 | .ok _ w=>w
 | .halt _ w=>w
theorem azq{α:Type}:∀(x:Ask α) (w:World),w.drawn≤(w.ask x).2.drawn:=by
 intro x
 induction x with
 |done a=>intro w;exact qAd _
 |ask what range k ih=>
  unfold World.ask
  grind
theorem anJ(w:World)(c:Sys):w.drawn≤(w.sys c).2.drawn:=by
 have h:=azq (Kernel.perform c w.os) w;unfold World.sys
 grind
theorem asQ(w:World)(a:Addr)(n:Nat):(w.freeze a n).drawn=w.drawn:=by
 unfold World.freeze
 grind
theorem amy{P:Program}{w w':World}{a:Addr}{v:Value}{b:Bool}{l:List Addr}(h:w.farStore P a v b=.ok (w',l)):w'.drawn=w.drawn:=by
 unfold World.farStore at h;split at h
 ·split at h
  ·rename_i r e;cases h;simp only[World.viewStore,bind,Except.bind]at e
   repeat' first
    |(cases e;done)
    |(cases e;rfl)
    |split at e
  ·cases h
 ·cases h
theorem Od{α:Type}(P:Program):∀(s:Sem α) (w:World),w.drawn≤(Rw (s.run P w)).drawn:=by
 intro s
 induction s with
 |pure a=>intro w;exact qAd _
 |halt h=>intro w;exact qAd _
 |choose q k ih=>
  intro w;unfold Sem.run
  grind
 |sys c k ih=>intro w;unfold Sem.run;exact qAs (anJ w c) (ih _ _)
 |program k ih=>intro w;unfold Sem.run;exact ih _ w
 |mark m k ih=>intro w;unfold Sem.run;exact ih w
 |new o k ih=>intro w;unfold Sem.run;exact ih w.heap.size {w with heap:=w.heap.push o}
 |shape r k ih=>intro w;unfold Sem.run;exact ih _ w
 |frozen a k ih=>intro w;unfold Sem.run;exact ih _ w
 |freeze a n k ih=>intro w;unfold Sem.run;have:=ih (w.freeze a n);rw[asQ]at this;exact this
 |getObj r k ih=>
  intro w;unfold Sem.run;split
  ·exact qAd _
  ·grind
  ·exact qAd _
 |setObj r o k ih=>
  intro w;unfold Sem.run;split
  ·exact qAd _
  ·grind
  ·exact qAd _
 |load m a k ih=>
  intro w;unfold Sem.run;split
  ·grind
  ·split
   ·grind
   ·exact qAd _
 |store m a v k ih=>
  intro w;have key:w.drawn≤(Rw (match w.cell? a with
   |some _=>if w.frozen? a then .halt (.unsupported (.unsafePointer "a write to bytes that a string shares")) w else k.run P (w.setCell a v)
   |none=>match w.farStore P a v (m==.atomic)with
    | .ok (w,_)=>k.run P w
    | .error h=>.halt h w)).drawn:=by
   split
   ·split
    ·exact qAd _
    ·exact ih (w.setCell a v)
   ·split
    ·rename_i w' _ e;have:=ih w';rw[amy e]at this;exact this
    ·exact qAd _
  cases v<;>first|exact qAd _|exact key
def GW:GStep→World
 | .go _ w _=>w
 | .comm _ _ _ _ w _=>w
 | .spawn _ _ w _=>w
 | .count _ w _=>w
 | .timer _ _ w _=>w
 | .alone _ _ w _=>w
 | .newcoro _ _ _ w _=>w
 | .coroswitch _ _ _ w _=>w
 | .collect _ w _=>w
 | .watch _ w _=>w
 | .ended _ w _=>w
theorem Cy(es:Array Event)(s:GStep):GW (s.after es)=GW s:=by cases s<;>rfl
theorem Ls(p:Program)(main:Bool)(fr:Frame)(cs:List Frame)(d:Option Dying)(v:Value)(w:World):w.drawn≤(GW (doReturn p main fr cs d v w)).drawn:=by
 unfold doReturn
 repeat' first
  |exact qAd _
  |(rw[Cy])
  |split
theorem aoA(w:World)(fd:Nat)(b:ByteArray)(o:Outcome):w.drawn≤(GW (endWith w fd b o)).drawn:=by
 have h:=anJ w (.write fd b);unfold endWith;generalize w.sys (.write fd b)=x at h;obtain⟨r,w'⟩:=x;cases r<;>dsimp only<;>(repeat' first|exact h|split)
theorem atJ(p:Program)(listen:Bool)(hT:∀(fr:Frame) (m:String) (w:World),w.drawn≤(GW (endThrow fr m w)).drawn)(hF:∀(fr:Frame) (cs:List Frame) (d:Option Dying) (m:String) (w:World),w.drawn≤(GW (endFatal p fr cs d m w)).drawn)
  (hE:∀(fr:Frame) (cs:List Frame) (d:Option Dying) (g:Nat) (w:World),w.drawn≤(GW (early p fr cs d g w)).drawn) (fr:Frame) (cs:List Frame) (d:Option Dying) (s:Sem Next) (w:World):w.drawn≤(GW (stepG.apply p listen fr cs d s w)).drawn:=by
 have hr:=Od p s w;have hrt:(if listen then s.runT p w #[]else(s.run p w,#[])).1=s.run p w:=by
  split
  ·simp_all
  ·rfl
 unfold stepG.apply;dsimp only;generalize (if listen then s.runT p w #[]else(s.run p w,#[]))=x at hrt;obtain⟨r,es⟩:=x;simp only at hrt;subst hrt;dsimp only;rw[Cy];refine qAs hr ?_;cases s.run p w with
 |ok a w'=>
  simp only[Rw];cases a<;>(try dsimp only)<;>(repeat' first|exact qAd _|exact hT _ _ _|(exfalso;simp_all;done)|split)
 |halt h w'=>
  simp only[Rw];cases h<;>(try dsimp only)<;>(repeat' first|exact qAd _|exact hT _ _ _|exact hF _ _ _ _ _|exact hE _ _ _ _ _|(exfalso;simp_all;done)|(rename_i e;cases e;first|exact qAd _|exact hE _ _ _ _ _)|split)
theorem aw8{α:Type}(p:Program)(s:Sem α)(w:World)(es:Array Event):w.drawn≤(Rw (s.runT p w es).1).drawn:=by
 rw[Sem.runT_eq];exact Od p s w
theorem axp(p:Program)(main listen:Bool)(hA:∀(fr:Frame) (cs:List Frame) (d:Option Dying) (s:Sem Next) (w:World),w.drawn≤(GW (stepG.apply p listen fr cs d s w)).drawn)(fr:Frame)(cs:List Frame)(d:Option Dying)(w:World):w.drawn≤(GW (stepG.oper p listen fr cs d w)).drawn:=by
 unfold stepG.oper
 repeat' first|exact qAd _|exact hA _ _ _ _ _|split
theorem awG(p:Program)(main listen:Bool)(hA:∀(fr:Frame) (cs:List Frame) (d:Option Dying) (s:Sem Next) (w:World),w.drawn≤(GW (stepG.apply p listen fr cs d s w)).drawn)(fr:Frame)(cs:List Frame)(d:Option Dying)(w:World):w.drawn≤(GW (stepG.exec p main listen fr cs d w)).drawn:=by
 have hO:=axp p main listen hA;have hL:∀(j:Option Code) (l:Nat),w.drawn≤(GW (GStep.after (seen p fr.fn ((Instr.endRound l j).runT p w #[]).2) (match((Instr.endRound l j).runT p w #[]).1 with
   | .ok v w=>doReturn p main fr cs d v w
   | .halt _ w=>.ended (.stuck "range over a function: no such loop" (fr.pos p)) w))).drawn:=fun j l=>by
  rw[Cy];refine qAs (aw8 p (Instr.endRound l j) w #[]) ?_;split
  ·rename_i e;rw[e];exact Ls _ _ _ _ _ _ _
  ·rename_i e;rw[e];exact qAd _
 have hR:∀{α:Type} {x:Sem α} {r:Result α},x.run p w=r→w.drawn≤(Rw r).drawn:=fun e=>by rw[←e];exact Od p _ w
 have hLv:∀(j:Option Code) (g:GStep),w.drawn≤(GW g).drawn→w.drawn≤(GW (match fr.roundOf with
   |none=>g
   |some l=>GStep.after (seen p fr.fn ((Instr.endRound l j).runT p w #[]).2) (match((Instr.endRound l j).runT p w #[]).1 with
    | .ok v w=>doReturn p main fr cs d v w
    | .halt _ w=>.ended (.stuck "range over a function: no such loop" (fr.pos p)) w))).drawn:=fun j g hg=>by
  split
  ·exact hg
  ·exact hL _ _
 unfold stepG.exec;dsimp only;split
 all_goals(try exact qAd _)
 all_goals(try exact hA _ _ _ _ _)
 ·exact hLv none _ (qAd _)
 ·exact hLv (some .ret) _ (qAd _)
 ·split<;>exact qAd _
 ·rename_i id k _;cases exitTo id k with
  |none=>exact hLv (some (.exit id)) _ (qAd _)
  |some x=>exact qAd _
 ·rename_i l k _;cases gotoIn l k with
  |none=>exact hLv (some (.goto l)) _ (qAd _)
  |some x=>exact qAd _
 ·simp only[Sem.runT_eq,Cy];split
  ·rename_i e;exact qAs (hR e) (hA _ _ _ _ _)
  ·rename_i e;exact hR e
 ·simp only[Sem.runT_eq,Cy];split
  ·rename_i e;exact hR e
  ·rename_i e;exact hR e
  ·rename_i e;exact hR e
 ·rename_i row args k _;cases Extern.next row with
  |none=>exact qAd _
  |some e=>exact hA _ _ _ _ _
 ·split
  ·exact qAd _
  ·split
   ·rename_i e;exact hR e
   ·rename_i e;exact hR e
 ·split
  ·exact hO _ _ _ _
  ·exact qAd _
theorem K8(fr:Frame)(m:String)(w:World):w.drawn≤(GW (endThrow fr m w)).drawn:=qAd _
theorem rZ{α:Type}{p:Program}{w:World}{x:Sem α}{r:Result α}(e:x.run p w=r):w.drawn≤(Rw r).drawn:=by rw[←e];exact Od p _ w
theorem Xl(p:Program)(fr:Frame)(cs:List Frame)(d:Option Dying)(m:String)(w:World):w.drawn≤(GW (endFatal p fr cs d m w)).drawn:=by
 unfold endFatal;dsimp only;split
 ·rename_i e;exact rZ e
 ·rename_i e;exact rZ e
 ·rename_i e;exact rZ e
theorem O4(p:Program)(fr:Frame)(v:Value)(w:World):w.drawn≤(GW (endPrinting p fr v w)).drawn:=by
 unfold endPrinting;dsimp only;split
 ·exact K8 _ _ _
 ·exact qAd _
theorem aHC{c:Prop}[Decidable c]{n:Nat}{a b:GStep}(h1:n≤(GW a).drawn)(h2:n≤(GW b).drawn):n≤(GW (if c then a else b)).drawn:=by grind
theorem acV(p:Program)(fr:Frame)(cs:List Frame)(dy:Option Dying)(d:Deferred)(w:World):w.drawn≤(GW (callDeferred p fr cs dy d w)).drawn:=by
 refine aHC (qAd _) ?_
 ·have hr:=Od p (invoke d.target d.args) w;simp only[Sem.runT_eq,Cy];refine qAs hr ?_;cases(invoke d.target d.args).run p w with
  |ok a w'=>
   cases a
   case coroswitch c b=>cases b<;>exact qAd _
   case alone b v=>cases b<;>exact qAd _
   case recover=>
    dsimp only;split<;>exact qAd _
   all_goals exact qAd _
  |halt h w'=>
   cases h<;>(try dsimp only)<;>(repeat' first|exact qAd _|exact Xl _ _ _ _ _ _|exact K8 _ _ _|split)
theorem as2(p:Program)(main:Bool)(fr:Frame)(cs:List Frame)(dy:Option Dying)(w:World):w.drawn≤(GW (unwind p main fr cs dy w)).drawn:=by
 unfold unwind;split
 ·simp;split
  ·rename_i e;exact rZ e
  ·rename_i e;exact rZ e
 ·exact acV _ _ _ _ _ _
 ·split
  ·exact qAd _
  ·split
   ·exact qAd _
   ·split
    ·exact qAd _
    ·split
     ·split
      ·exact qAd _
      ·split
       ·rename_i e;exact rZ e
       ·rename_i e;exact rZ e
       ·rename_i e;exact rZ e
     ·split
      ·exact O4 _ _ _ _
      ·exact qAd _
  ·split
   ·exact Ls _ _ _ _ _ _ _
   ·simp only[Sem.runT_eq,Cy];split
    ·rename_i e;exact qAs (rZ e) (Ls _ _ _ _ _ _ _)
    ·rename_i e;exact rZ e
    ·rename_i e;exact rZ e
theorem atP(p:Program)(fr:Frame)(cs:List Frame)(dy:Option Dying)(g:Nat)(w:World):w.drawn≤(GW (early p fr cs dy g w)).drawn:=by
 have hn:∀w:World,w.drawn≤(GW (match w.heap[g]? with
  |some (.pending c elem)=>.go {frame:=fr,callers:=cs,status:=.running,dying:=dy} {w with heap:=w.heap.setIfInBounds g (.cells c elem)}
  |_=>.ended (.stuck "early: the variable does not wait" (fr.pos p)) w)).drawn:=fun w=>by
  split<;>exact qAd _
 unfold early;dsimp only
 repeat' first
  |exact qAd _
  |exact hn _
  |(rename_i e;exact rZ e)
  |(rename_i e;exact qAs (rZ e) (hn _))
  |split
theorem aoC(p:Program)(fr:Frame)(d:Dying)(f:Fatal)(w:World):w.drawn≤(GW (writeOn p fr d f w)).drawn:=by
 unfold writeOn;dsimp only;split
 ·exact qAd _
 ·simp only[Sem.runT_eq];split
  ·rename_i e;exact rZ (Prod.mk.inj e).1
  ·rename_i e;exact rZ (Prod.mk.inj e).1
  ·rename_i e;exact rZ (Prod.mk.inj e).1
  ·rename_i e;exact rZ (Prod.mk.inj e).1
theorem azV(p:Program)(fr:Frame)(d:Dying)(w:World):w.drawn≤(GW (die p fr d w)).drawn:=by
 unfold die;split
 ·exact aoC _ _ _ _ _
 ·split
  ·split
   ·exact qAd _
   ·exact aoA _ _ _ _
  ·dsimp only;split
   ·exact qAd _
   ·split
    ·rename_i e;exact rZ e
    ·rename_i e;exact rZ e
   ·simp only[Sem.runT_eq,Cy];split
    ·rename_i e;exact rZ e
    ·rename_i e;exact rZ e
    ·rename_i e;exact rZ e
    ·rename_i e;exact qAs (rZ e) (O4 _ _ _ _)
    ·exact qAd _
   ·exact qAd _
theorem auo(p:Program)(main:Bool)(g:Goroutine)(w:World)(b:Bool):w.drawn≤(GW (stepG p main g w b)).drawn:=by
 unfold stepG;dsimp only;split
 ·exact azV _ _ _ _
 ·exact awG p main b (atJ p b K8 (Xl p) (atP p)) _ _ _ _
 ·exact as2 _ _ _ _ _ _
theorem ae1(p:Program)(rest:Rest)(gs:Array Goroutine)(i:Nat)(g:Goroutine)(cases:Array CommCase)(blocking:Bool)
  (shape:CommShape) (w:World) (m':Machine) (h:(communicate p rest gs i g cases blocking shape w).1=.next m'):w.drawn≤m'.world.drawn:=by
 have hwa:∀w1,waitingAt rest cases w=some w1→w1.drawn=w.drawn:=fun w1 e=>by
  unfold waitingAt at e
  grind
 unfold communicate at h;dsimp only at h;split at h
 ·cases h
 ·split at h
  ·split at h
   ·split at h
    ·rename_i e;cases h;exact qBm (hwa _ e).symm
    ·cases h
   ·cases h;exact qAd _
  ·split at h
   ·cases h
   ·rename_i e;refine qAs (rZ e) ?_;simp only[Rw];clear e
    repeat' first
     |(cases h;done)
     |(cases h;exact qAd _)
     |(rename_i e;cases h;exact rZ e)
     |split at h
theorem ake(p:Program)(gs:Array Goroutine)(rest:Rest)(w:World)(m':Machine)
  (h:Go.look p gs rest w=.next m'):w.drawn≤m'.world.drawn:=by
 unfold Go.look at h;dsimp only at h;split at h
 ·split at h
  ·cases h
  ·split at h
   ·cases h
   ·split at h
    ·rename_i e;cases h;exact rZ e
    ·cases h
    ·cases h
 ·cases h
theorem aph(m:Machine)(op:TimerOp)(v:Value)(m':Machine)(h:timerOp m op=.ok (v,m')):m'.world.drawn=m.world.drawn:=by
 have hd:∀(w:World) (c:Nat),(drain w c).2.drawn=w.drawn:=fun w c=>by unfold drain;split<;>rfl
 have hr:∀(m:Machine) (k:Nat) (t:Timer) (a b:Nat),(retime m k t a b).2.world.drawn=m.world.drawn:=fun m k t a b=>by
  unfold retime
  grind
 have hn:∀(m0:Machine) (var:Addr) (f:Nat→Timer→Value×Machine),(∀k t,(f k t).2.world.drawn=m0.world.drawn)→∀v m1,timerOp.named m var f=.ok (v,m1)→m1.world.drawn=m0.world.drawn:=fun m0 var f hf v m1 e=>by
  unfold timerOp.named at e
  grind
 have ho:∀(var:Addr) (m1:Machine),timerOp.opened m var=some m1→m1.world.drawn=m.world.drawn:=fun var m1 e=>by
  unfold timerOp.opened at e
  grind
 cases op with
 |new t=>
  simp only[timerOp]at h
  repeat' first
   |(cases h;done)
   |(cases h;rfl)
   |split at h
 |stop var=>
  simp only[timerOp]at h
  grind
 |reset var a b=>
  simp only[timerOp]at h
  grind
 |deadline ctx r wr a=>
  cases h;rfl
theorem Wi(fr:Frame)(m:String)(w:World)(g:Goroutine)(w':World)(es:Array Event)(h:endThrow fr m w=.go g w' es):w'=w:=by
 cases h;rfl
theorem atI(p:Program)(m m':Machine)(i:Nat)(b:Bool)(h:(Go.runT p m i b).1=.next m'):m.world.drawn≤m'.world.drawn:=by
 simp only[Go.runT]at h
 revert h
 generalize m.gs.swapAt! _ _=gg;have hs:=auo p (i==0) gg.1 m.world b;generalize stepG p _ gg.1 m.world b=s at *;intro h;refine qAs hs ?_;cases s<;>simp only[GW]at *
 case ended=>cases h
 case comm=>exact ae1 _ _ _ _ _ _ _ _ _ _ h
 case go=>cases h;exact qAd _
 case spawn=>cases h;exact qAd _
 case count=>
  grind
 case alone=>cases h;exact qAd _
 case collect=>exact ake _ _ _ _ _ h
 case watch=>cases h;exact qAd _
 case newcoro=>cases h;exact qAd _
 case coroswitch=>
  split at h
  ·grind
  ·split at h
   ·rename_i e;cases h;rw[Wi _ _ _ _ _ _ e];exact qAd _
   ·cases h
  ·cases h
 case timer=>
  split at h
  ·rename_i e;cases h;exact qBm (aph _ _ _ _ e).symm
  ·split at h
   ·rename_i e;cases h;rw[Wi _ _ _ _ _ _ e];exact qAd _
   ·cases h
  ·cases h
  ·cases h
theorem atX(p:Program)(m m':Machine)(k:Nat)(h:serve p m k=.next m'):m'.world.drawn=m.world.drawn:=by
 unfold serve at h
 grind
def MW(n:Nat):Move→Prop
 | .goroutine m _=>n≤m.world.drawn
 | .machine (.next m) _=>n≤m.world.drawn
 | .machine (.ended _ _) _=>True
theorem MW.mono{a b:Nat}(h:a≤b){x:Move}(hx:MW b x):MW a x:=by
 cases x with
 |goroutine m i=>exact qAs h hx
 |machine s ops=>
  cases s with
  |next m=>exact qAs h hx
  |ended=>trivial
theorem Yh(p:Program)(rs:List Nat)(m:Machine):MW m.world.drawn (match(choose (.sched rs.length)).run p m.world with
   | .halt _ w=>.machine (.ended (.stuck "sched" "") w)
   | .ok k world=>
    if rs.length≤1 then .goroutine {m with world} (rs.getD k 0)else
    match(choose (.extern "sched.slice" 65536)).run p world with
    | .halt _ w=>.machine (.ended (.stuck "sched.slice" "") w)
    | .ok n world=>.goroutine {m with world,rest:={m.rest with slice:=if n=0 then none else some (rs.getD k 0,n)}} (rs.getD k 0)):=by
 split
 ·trivial
 ·rename_i e;have e:=rZ e;split
  ·exact e
  ·split
   ·trivial
   ·rename_i e2;exact qAs e (rZ e2)
theorem Vo(p:Program)(m:Machine):MW m.world.drawn (askOn p m):=by
 unfold askOn;dsimp only;split
 ·trivial
 ·rename_i k w1 e;have e:m.world.drawn≤w1.drawn:=rZ e;split
  ·generalize hs:serve p _ _=s;cases s with
   |next m'=>show m.world.drawn≤m'.world.drawn;rw[atX _ _ _ _ hs];exact e
   |ended=>trivial
  ·split
   ·split
    ·exact e
    ·split
     ·exact e
     ·split<;>trivial
   ·split
    ·exact MW.mono e (Yh p _ {m with world:=w1})
    ·split
     ·trivial
     ·rename_i e2;exact MW.mono (qAs e (rZ e2)) (Yh p _ {m with world:=_})
     ·rename_i e2;exact qAs e (rZ e2)
     ·rename_i e2;exact MW.mono (qAs e (rZ e2)) (Yh p _ (Machine.advanceTo {m with world:=_} _))
theorem aj0(p:Program)(m:Machine):MW m.world.drawn (ask p m):=by
 unfold ask;split
 ·split
  ·trivial
  ·rename_i e;have e:=rZ e;split
   ·rename_i h;exact MW.mono (qAs e (ake _ _ _ _ _ h)) (Vo p _)
   ·rename_i h;generalize Go.look p m.gs m.rest _=s at h;cases s with
    |next m'=>exact(h m' rfl).elim
    |ended=>trivial
  ·rename_i e;have e:=rZ e;exact MW.mono e (Vo p {m with world:=_})
 ·exact Vo p m
theorem awt(p:Program)(m:Machine):MW m.world.drawn (move p m):=by
 unfold move;split
 ·split
  ·exact qAd _
  ·trivial
 ·split
  ·split
   ·exact qAd _
   ·exact aj0 p {m with rest:=_}
  ·exact aj0 p m
theorem ax7(p:Program)(m m':Machine)(h:step p m=.next m'):m.world.drawn≤m'.world.drawn:=by
 unfold Go.step Go.stepT at h;have hm:=awt p m;generalize move p m=x at h hm;cases x with
 |goroutine m1 i=>exact qAs hm (atI p m1 m' i true h)
 |machine s ops=>
  subst h;exact hm
theorem Yl(p:Program):∀(n:Nat) (m m':Machine),runN p n m=.next m'→m.world.drawn≤m'.world.drawn
 |0,m,m',h=>by cases h;exact qAd _
 |n+1,m,m',h=>by
  simp only[runN]at h;cases hs:step p m with
  |next m1=>rw[hs]at h;exact qAs (ax7 p m m1 hs) (Yl p n m1 m' h)
  |ended o w=>rw[hs]at h;cases h
theorem Calls.drawn{P:Program}{f:FuncId}{args:Array Value}{w:World}{R:Ending→World→Prop}(h:Calls P f args w R)(hR:∀w',¬R .outgrown w'):Calls P f args w fun e w'=>R e w'∧w.drawn≤w'.drawn:=by
 intro cs;obtain⟨e,w',fr,hr,hc,hf,hl⟩:=h cs;refine⟨e,w',fr,⟨hr,?_⟩,hc,hf,hl⟩;cases e with
 |outgrown=>exact(hR w' hr).elim
 |returned v=>obtain⟨n,hn⟩:=hc;exact Yl P n _ _ hn
 |panicked c=>obtain⟨n,hn⟩:=hc;exact Yl P n _ _ hn
end
section
open Go Go.Sort
theorem asS{w w':World}(hs:w.heap.size≤w'.heap.size)(hk:∀b:Nat,b<w.heap.size→w'.heap[b]? =w.heap[b]?)(hd:w.drawn≤w'.drawn)(ho:w'.os=w.os)(ht:w'.tape=w.tape)(hp:w'.output=w.output):∃q os',w'=grow (w.drewN q) os':=by
 refine⟨w'.drawn - w.drawn,w'.heap.extract w.heap.size w'.heap.size,?_⟩;cases w with
 |mk heap tape drawn os output=>
 cases w' with
 |mk heap' tape' drawn' os' output'=>
  simp only at hs hk hd ho ht hp;subst ho ht hp;have hh:heap'=heap++heap'.extract heap.size heap'.size:=by
   grind
  have hdr:drawn'=drawn+(drawn' - drawn):=by omega
  show World.mk heap' tape' drawn' os' output'=World.mk (heap++heap'.extract heap.size heap'.size) tape' (drawn+(drawn' - drawn)) os' output'
  grind
theorem at_nil(l:Nat):at? [] l=none:=by cases l<;>rfl
theorem ac1(ak:bU)(w:World)(hpv:∀b o,ak b o→b<w.heap.size):Entry [] ak [] w where
 klen:=rfl
 resv:=fun l _=>at_nil l
 obj:=fun l b h=>by rw[at_nil]at h;cases h
 apart:=fun l l' b h=>by rw[at_nil]at h;cases h
 bound:=fun l b h=>by rw[at_nil]at h;cases h
 pvlt:=hpv
 pvdis:=fun b o l _ h=>by rw[at_nil]at h;cases h
theorem ahx(ak:bU)(H:List AObj)(b o:Nat):aH ak [] H b o↔ak b o:=by
 constructor
 ·rintro(h|⟨l,h,_⟩)
  ·exact h
  ·rw[at_nil]at h;cases h
 ·exact .inl
theorem quiet_of{P:Program}{f:Nat}{args:List AV}{res:AV}(hA:eH P f args [] res [])(w:World)(ak:bU)(hpv:∀b o,ak b o→b<w.heap.size)(vs:List Value)(hl:vs.length=args.length)
  (hr:∀j,j<args.length→Rel w [] ak (args.getD j .unk) (vs.getD j undef)) (V:Value) (hV:∀w' κ pv v,Rel w' κ pv res v→v=V):
  Calls P f vs.toArray w fun e w'=>e=.returned V∧∃q os',w'=grow (w.drewN q) os':=by
 have hpve:aH ak [] []=ak:=by funext b o;exact propext (ahx ak [] b o)
 have h:=Calls.drawn (hA [] ak w vs (ac1 ak w hpv) hl (by rw[hpve];exact hr)) (by rintro w' ⟨v,κ',h,_⟩;cases h);refine h.mono ?_;rintro e w' ⟨⟨v,κ',rfl,hL,hv⟩,hd⟩;refine⟨by rw[hV _ _ _ _ hv],asS hL.ny.size (fun b hb=>hL.kept b hb fun l h=>by rw[at_nil]at h;cases h) hd hL.os hL.tape hL.output⟩
end
section
open Go Go.Proofs
set_option maxRecDepth 100000
theorem GJ(n:Nat):ah Tryz.prog TE (u7 n):=MKS n [(3,.jn [.r 4 .B] false)] .n @Tryz.func295
theorem FP(n:Nat):ah Tryz.prog TE (uq n):=MKS n [] (.c (GJ n) .n) @Tryz.func249
theorem Jf(n:Nat):ah Tryz.prog TE (Jz n):=MKS n [] (.c (FP n) .n) @Tryz.func161
theorem aex(n:Nat):ah Tryz.prog TE (OI n):=MKS n [] (.c (Jf n) (.c (tF n) .n)) @Tryz.func86
theorem I8(n:Nat):ah Tryz.prog TE (Jr n):=MKS n [(7,.jn [.r 4 .B] false)] .n @Tryz.func109
theorem gQ:∀n,ah Tryz.prog TE (vM n)∧ah Tryz.prog TE (sO n)∧ah Tryz.prog TE (vQ n)∧ah Tryz.prog TE (um n)
 |0=>⟨jR (fn:=Tryz.f296) (by kernel_rfl) fun _=>rfl,jR (fn:=Tryz.f250) (by kernel_rfl) fun _=>rfl,jR (fn:=Tryz.f165) (by kernel_rfl) fun _=>rfl,jR (fn:=Tryz.f254) (by kernel_rfl) fun _=>rfl⟩
 |n+1=>⟨MKS n [(26,.lp [.r 8 .I,.o 1 (.bx [(0,.lf (.n .i64))])] 0 [.o 1 (.bx [(0,.lf (.n .i64))])])] (.c (gQ n).2.2.2 .n) @Tryz.func296,
  MKS n [] (.c (gQ n).1 .n) @Tryz.func250,
  MKS n [(15,.jn [.r 9 .I] true),(62,.jn [.r 45 .B] false)] (.c (I8 n) (.c (tF n) (.c (gQ n).2.1 .n))) @Tryz.func165,
  MKS n [] (.c (gQ n).2.2.1 .n) @Tryz.func254⟩
theorem SH(n:Nat):ah Tryz.prog TE (vQ n):=(gQ n).2.2.1
theorem uP(n:Nat):ah Tryz.prog TE (Sn n):=MKS n [] (.c (SH n) .n) @Tryz.func91
theorem fJ:∀n,ah Tryz.prog TE (tY n)∧ah Tryz.prog TE (qo n)∧ah Tryz.prog TE (FH n)∧ah Tryz.prog TE (BL n)
 |0=>⟨jR (fn:=Tryz.f296) (by kernel_rfl) fun _=>rfl,jR (fn:=Tryz.f250) (by kernel_rfl) fun _=>rfl,jR (fn:=Tryz.f162) (by kernel_rfl) fun _=>rfl,jR (fn:=Tryz.f251) (by kernel_rfl) fun _=>rfl⟩
 |n+1=>⟨MKS n [(26,.lp [.r 8 .I] 0 [])] (.c (fJ n).2.2.2 .n) @Tryz.func296,
  MKS n [] (.c (fJ n).1 .n) @Tryz.func250,
  MKS n [(3,.jn [.r 4 .B] false)] (.c (fJ n).2.1 .n) @Tryz.func162,
  MKS n [] (.c (fJ n).2.2.1 .n) @Tryz.func251⟩
theorem aep(n:Nat):ah Tryz.prog TE (FH n):=(fJ n).2.2.1
theorem aa5(n:Nat):ah Tryz.prog TE (Ku n):=MKS n [(3,.jn [.r 2 .B] false)] (.c (uP n) (.c (aep n) .n)) @Tryz.func87
theorem Rk:∀n,ah Tryz.prog TE (RG n)
 |0=>jR (fn:=Tryz.f167) (by kernel_rfl) fun _=>rfl
 |n+1=>MKS n [(3,.jn [.o 0 (.mp .b)] false),(30,.lp [.r 15 .I,.o 0 (.mp .b),.o 1 .dead] 0 [.o 0 (.mp .b),.o 1 .dead])] (.c (Rk n) .n) @Tryz.func167
theorem agJ(n:Nat):ah Tryz.prog TE (Rz n):=MKS n [] .n @Tryz.func169
theorem Fu(n:Nat):ah Tryz.prog TE (OM n):=MKS n [] (.c (uP n) (.c (Rk n) (.c (agJ n) (.c (Vn n) .n)))) @Tryz.func93
theorem VN(n:Nat):ah Tryz.prog TE (IW n):=MKS n [] .n @Tryz.func253
theorem Ov(n:Nat):ah Tryz.prog TE (AQ n):=MKS n [(26,.lp [.r 8 .I] 0 [])] (.c (VN n) .n) @Tryz.func79
theorem Kk(n:Nat):ah Tryz.prog TE (yh n):=MKS n [] (.c (Ov n) .n) @Tryz.func252
theorem aa3(n:Nat):ah Tryz.prog TE (Kz n):=MKS n [] (.c (Kk n) .n) @Tryz.func164
theorem aaY(n:Nat):ah Tryz.prog TE (KA n):=MKS n [] (.c (aa3 n) .n) @Tryz.func163
theorem PU(n:Nat):ah Tryz.prog TE (Cq n):=MKS n [(26,.lp [.r 8 .I] 0 [])] (.c (aaY n) .n) @Tryz.func166
theorem La(n:Nat):ah Tryz.prog TE (yR n):=MKS n [] (.c (PU n) .n) @Tryz.func92
theorem aeD(n:Nat):ah Tryz.prog TE (OH n):=MKS n [] (.c (Fu n) (.c (La n) .n)) @Tryz.func88
theorem aeu(n:Nat):ah Tryz.prog TE (OL n):=MKS n [(58,.lp [.w (.own .s),.r 3 (.own 1),.r 11 .I] 0 [.w (.own .s),.r 3 (.own 1)]),(122,.lp [.w (.own .s),.r 3 (.own 2),.r 27 .I,.o 0 .dead,.o 1 .dead] 2 [.w (.own .s),.r 3 (.own 2),.o 0 .dead,.o 1 .dead])] .n @Tryz.func90
theorem ae0(n:Nat):ah Tryz.prog TE (O9 n):=MKS n [(58,.lp [.r 9 .I,.o 0 (.mp .b)] 0 [.o 0 .dead]),(7474,.jn [.r 15 .B] false)] .n @Tryz.func89
theorem Fv(n:Nat):ah Tryz.prog TE (Pd n):=MKS n [(6,.jn [.r 18 .B] false),(58,.lp [.r 22 .I] 0 []),(122,.lp [.r 51 .I] 4 []),(7474,.jn [.r 35 .B] false),(7833,.jn [.r 71 .B] false),(29902,.lp [.r 39 .I,.o 1 .dead] 2 [.o 1 .dead])] (.c (tF n) (.c (aex n) (.c (aa5 n) (.c (aeD n) (.c (aeu n) (.c (ae0 n) .n)))))) @Tryz.func42
theorem UE(n:Nat):ah Tryz.prog TE (Td n):=MKS n [(58,.lp [.r 16 .I,.o 0 .dead] 0 [.o 0 .dead]),(3737,.jn [.r 48 .B] false)] .n @Tryz.func55
theorem al1(n:Nat):ah Tryz.prog TE (VZ n):=MKS n [] .n @Tryz.func80
theorem Kl(n:Nat):ah Tryz.prog TE (xV n):=MKS n [(26,.lp [.r 8 .I] 0 [])] (.c (al1 n) .n) @Tryz.func79
theorem acI(n:Nat):ah Tryz.prog TE (abS n):=MKS n [] (.c (Kl n) .n) @Tryz.func37
theorem ahS(n:Nat):ah Tryz.prog TE (Ua n):=MKS n [] .n @Tryz.func246
theorem aer(n:Nat):ah Tryz.prog TE (OT n):=MKS n [] (.c (ahS n) .n) @Tryz.func148
theorem arC(n:Nat):ah Tryz.prog TE (acD n):=MKS n [(58,.lp [.r 8 .I] 0 [])] .n @Tryz.func147
theorem mV:∀n,ah Tryz.prog TE (sJ n)∧ah Tryz.prog TE (KZ n)
 |0=>⟨jR (fn:=Tryz.f150) (by kernel_rfl) fun _=>rfl,jR (fn:=Tryz.f76) (by kernel_rfl) fun _=>rfl⟩
 |n+1=>⟨MKS n [(26,.lp [.r 13 .I] 0 [])] (.c (mV n).2 .n) @Tryz.func150,
  MKS n [] (.c (aer n) (.c (aeW n) (.c (arC n) (.c (mV n).1 .n)))) @Tryz.func76⟩
theorem qx(n:Nat):ah Tryz.prog TE (KZ n):=(mV n).2
theorem Mw:∀n,ah Tryz.prog TE (Zu n)∧ah Tryz.prog TE (Rl n)
 |0=>⟨jR (fn:=Tryz.f44) (by kernel_rfl) fun _=>rfl,jR (fn:=Tryz.f95) (by kernel_rfl) fun _=>rfl⟩
 |n+1=>⟨MKS n [(234,.jn [.r 8 .B] false),(942,.jn [.r 8 .B] false),(7549,.jn [.r 8 .B] false),(15102,.jn [.r 8 .B] false),(120828,.jn [.r 161 .B] false),(966634,.lp [.r 11 .I] 1 [])] (.c (acI n) (.c (Mw n).2 (.c (qx n) .n))) @Tryz.func44,
  MKS n [(26,.lp [.r 11 .I] 0 [])] (.c (Mw n).1 .n) @Tryz.func95⟩
theorem ajL(n:Nat):ah Tryz.prog TE (Zu n):=(Mw n).1
end
end Abs
end Go.Proofs.YthgdaonechbgmaaGreat

/- The count of draws never falls. Conditions: none. -/
import GoSem.Step
import Derived.Laws.World
import Derived.Control
import Derived.Lone
import Derived.Calls
import Derived.Sort.Grow
import Derived.Deep.Draws
import Derived.Shelf.SlGeneric
import Derived.Shelf.SlIter.Nil
import Derived.Shelf.SortM.Plain
import Derived.Shelf.SortM.SortNone
import Derived.Ground.GgzProg
import Derived.Ground.SlgmProg
import Derived.Test.YtneeginmfjageaaGreatProg
import Derived.KernelRfl
import Derived.Tactics
import Derived.Tactics2
import Derived.WalkKit
import Derived.Laws.Externs
import Derived.Test.YtneeginmfjageaaGreatCNilox1bc5c3
set_option linter.all false
namespace Go.Proofs.YtneeginmfjageaaGreat
namespace Abs
def Rw{α:Type}:Result α->World| .ok _ w=>w| .halt _ w=>w
def azq{α:Type}:∀(x:Ask α) (w:World),w.drawn<=(w.ask x).2.drawn:=by
 intro x
 induction x with|done a=>intro w;exact qAd _|ask h r k i=>
  unfold World.ask
  grind
def anJ(w:World)(c:Sys):w.drawn<=(w.sys c).2.drawn:=by
 have h:=azq (Kernel.perform c w.os) w;unfold World.sys
 grind
def asQ(w:World)(a:Addr)(n:Nat):(w.freeze a n).drawn=w.drawn:=by
 unfold World.freeze
 grind
def amy{P:Program}{w w':World}{a:Addr}{v:Value}{b:Bool}{l:List Addr}(h:w.farStore P a v b=.ok (w',l)):w'.drawn=w.drawn:=by
 unfold World.farStore at h;split at h
 ·split at h
  ·rename_i r e;cases h;simp only[World.viewStore,bind,Except.bind]at e
   repeat' first
    |(cases e;done)
    |(cases e;rfl)
    |split at e
  cases h
 cases h
def Od{α:Type}(P:Program):∀(s:Sem α) (w:World),w.drawn<=(Rw (s.run P w)).drawn:=by
 intro s
 induction s with
 |pure a=>intro w;exact qAd _
 |halt h=>intro w;exact qAd _
 |choose q k i=>
  intro w;unfold Sem.run
  grind
 |sys c k i=>intro w;unfold Sem.run;exact qAs (anJ w c) (i _ _)
 |program k i=>intro w;unfold Sem.run;exact i _ w
 |mark m k i=>intro w;unfold Sem.run;exact i w
 |new o k i=>intro w;unfold Sem.run;exact i w.heap.size {w with heap:=w.heap.push o}
 |shape r k i=>intro w;unfold Sem.run;exact i _ w
 |frozen a k i=>intro w;unfold Sem.run;exact i _ w
 |freeze a n k i=>intro w;unfold Sem.run;have:=i (w.freeze a n);rw[asQ]at this;exact this
 |getObj r k i=>
  intro w;unfold Sem.run;split
  ·exact qAd _
  ·grind
  exact qAd _
 |setObj r o k i=>
  intro w;unfold Sem.run;split
  ·exact qAd _
  ·grind
  exact qAd _
 |load m a k i=>
  intro w;unfold Sem.run;split
  ·grind
  split
  ·grind
  exact qAd _
 |store m a v k i=>
  intro w;have y:w.drawn<=(Rw (match w.cell? a with
   |some _=>if w.frozen? a then .halt (.unsupported (.unsafePointer "a write to bytes that a string shares")) w else k.run P (w.setCell a v)
   |none=>match w.farStore P a v (m==.atomic)with
    | .ok (w,_)=>k.run P w
    | .error h=>.halt h w)).drawn:=by
   split
   ·split
    ·exact qAd _
    exact i (w.setCell a v)
   split
   ·rename_i b _ e;have:=i b;rw[amy e]at this;exact this
   exact qAd _
  cases v<;>first|exact qAd _|exact y
def GW:GStep->World| .go _ w _=>w| .comm _ _ _ _ w _=>w| .spawn _ _ w _=>w| .count _ w _=>w| .timer _ _ w _=>w| .alone _ _ w _=>w| .newcoro _ _ _ w _=>w| .coroswitch _ _ _ w _=>w| .collect _ w _=>w| .watch _ w _=>w| .ended _ w _=>w
def Cy(es:Array Event)(s:GStep):GW (s.after es)=GW s:=by cases s<;>rfl
def Ls(p:Program)(m:Bool)(f:Frame)(cs:List Frame)(d:Option Dying)(v:Value)(w:World):w.drawn<=(GW (doReturn p m f cs d v w)).drawn:=by
 unfold doReturn
 repeat' first
  |exact qAd _
  |(rw[Cy])
  |split
def aoA(w:World)(f:Nat)(b:ByteArray)(o:Outcome):w.drawn<=(GW (endWith w f b o)).drawn:=by have h:=anJ w (.write f b);unfold endWith;generalize w.sys (.write f b)=x at h;let⟨r,a⟩:=x;cases r<;>dsimp only<;>(repeat' first|exact h|split)
def atJ(p:Program)(l:Bool)(b:∀(f:Frame) (m:String) (w:World),w.drawn<=(GW (endThrow f m w)).drawn)(i:∀(f:Frame) (cs:List Frame) (d:Option Dying) (m:String) (w:World),w.drawn<=(GW (endFatal p f cs d m w)).drawn)
  (c:∀(f:Frame) (cs:List Frame) (d:Option Dying) (g:Nat) (w:World),w.drawn<=(GW (early p f cs d g w)).drawn) (f:Frame) (cs:List Frame) (d:Option Dying) (s:Sem Next) (w:World):w.drawn<=(GW (stepG.apply p l f cs d s w)).drawn:=by
 have j:=Od p s w;have t:(if l then s.runT p w #[]else(s.run p w,#[])).1=s.run p w:=by
  split
  ·simp_all
  rfl
 unfold stepG.apply;dsimp only;generalize (if l then s.runT p w #[]else(s.run p w,#[]))=x at t;let⟨r,n⟩:=x;simp only at t;subst t;dsimp only;rw[Cy];refine qAs j ?_;cases s.run p w with
 |ok a k=>
  simp only[Rw];cases a<;>(try dsimp only)<;>(repeat' first|exact qAd _|exact b _ _ _|(exfalso;simp_all;done)|split)
 |halt h k=>
  simp only[Rw];cases h<;>(try dsimp only)<;>(repeat' first|exact qAd _|exact b _ _ _|exact i _ _ _ _ _|exact c _ _ _ _ _|(exfalso;simp_all;done)|(rename_i e;cases e;first|exact qAd _|exact c _ _ _ _ _)|split)
def aw8{α:Type}(p:Program)(s:Sem α)(w:World)(es:Array Event):w.drawn<=(Rw (s.runT p w es).1).drawn:=by rw[Sem.runT_eq];exact Od p s w
def axp(p:Program)(m l:Bool)(hA:∀(f:Frame) (cs:List Frame) (d:Option Dying) (s:Sem Next) (w:World),w.drawn<=(GW (stepG.apply p l f cs d s w)).drawn)(f:Frame)(cs:List Frame)(d:Option Dying)(w:World):w.drawn<=(GW (stepG.oper p l f cs d w)).drawn:=by
 unfold stepG.oper
 repeat' first|exact qAd _|exact hA _ _ _ _ _|split
def awG(p:Program)(m i:Bool)(hA:∀(f:Frame) (cs:List Frame) (d:Option Dying) (s:Sem Next) (w:World),w.drawn<=(GW (stepG.apply p i f cs d s w)).drawn)(f:Frame)(cs:List Frame)(d:Option Dying)(w:World):w.drawn<=(GW (stepG.exec p m i f cs d w)).drawn:=by
 have n:=axp p m i hA;have q:∀(j:Option Code) (l:Nat),w.drawn<=(GW (GStep.after (seen p f.fn ((Instr.endRound l j).runT p w #[]).2) (match((Instr.endRound l j).runT p w #[]).1 with| .ok v w=>doReturn p m f cs d v w| .halt _ w=>.ended (.stuck "range over a function: no such loop" (f.pos p)) w))).drawn:=λj l=>by
  rw[Cy];refine qAs (aw8 p (Instr.endRound l j) w #[]) ?_;split;·rename_i e;rw[e];exact Ls _ _ _ _ _ _ _
  rename_i e;rw[e];exact qAd _
 have a:∀{b:Type} {x:Sem b} {r:Result b},x.run p w=r->w.drawn<=(Rw r).drawn:=λe=>by rw[<-e];exact Od p _ w
 have h:∀(j:Option Code) (g:GStep),w.drawn<=(GW g).drawn->w.drawn<=(GW (match f.roundOf with|none=>g|some l=>GStep.after (seen p f.fn ((Instr.endRound l j).runT p w #[]).2) (match((Instr.endRound l j).runT p w #[]).1 with| .ok v w=>doReturn p m f cs d v w| .halt _ w=>.ended (.stuck "range over a function: no such loop" (f.pos p)) w))).drawn:=λj g t=>by
  split;·exact t
  exact q _ _
 unfold stepG.exec;dsimp only;split
 all_goals(try exact qAd _)
 all_goals(try exact hA _ _ _ _ _)
 ·exact h none _ (qAd _)
 ·exact h (some .ret) _ (qAd _)
 ·split<;>exact qAd _
 ·rename_i id k _;cases exitTo id k with|none=>exact h (some (.exit id)) _ (qAd _)|some x=>exact qAd _
 ·rename_i l k _;cases gotoIn l k with|none=>exact h (some (.goto l)) _ (qAd _)|some x=>exact qAd _
 ·simp only[Sem.runT_eq,Cy];split
  ·rename_i e;exact qAs (a e) (hA _ _ _ _ _)
  rename_i e;exact a e
 ·simp only[Sem.runT_eq,Cy];split
  ·rename_i e;exact a e
  ·rename_i e;exact a e
  rename_i e;exact a e
 ·rename_i o c k _;cases Extern.next o with|none=>exact qAd _|some e=>exact hA _ _ _ _ _
 ·split
  ·exact qAd _
  split;·rename_i e;exact a e
  rename_i e;exact a e
 split;·exact n _ _ _ _
 exact qAd _
def K8(f:Frame)(m:String)(w:World):w.drawn<=(GW (endThrow f m w)).drawn:=qAd _
def rZ{α:Type}{p:Program}{w:World}{x:Sem α}{r:Result α}(e:x.run p w=r):w.drawn<=(Rw r).drawn:=by rw[<-e];exact Od p _ w
def Xl(p:Program)(f:Frame)(cs:List Frame)(d:Option Dying)(m:String)(w:World):w.drawn<=(GW (endFatal p f cs d m w)).drawn:=by
 unfold endFatal;dsimp only;split;·rename_i e;exact rZ e
 ·rename_i e;exact rZ e
 rename_i e;exact rZ e
def O4(p:Program)(f:Frame)(v:Value)(w:World):w.drawn<=(GW (endPrinting p f v w)).drawn:=by
 unfold endPrinting;dsimp only;split;·exact K8 _ _ _
 exact qAd _
def aHC{c:Prop}[Decidable c]{n:Nat}{a b:GStep}(h:n<=(GW a).drawn)(h2:n<=(GW b).drawn):n<=(GW (if c then a else b)).drawn:=by grind
def acV(p:Program)(f:Frame)(cs:List Frame)(y:Option Dying)(d:Deferred)(w:World):w.drawn<=(GW (callDeferred p f cs y d w)).drawn:=by
 refine aHC (qAd _) ?_
 have r:=Od p (invoke d.target d.args) w;simp only[Sem.runT_eq,Cy];refine qAs r ?_;cases(invoke d.target d.args).run p w with
 |ok a e=>
  cases a
  case coroswitch c b=>cases b<;>exact qAd _
  case alone b v=>cases b<;>exact qAd _
  case recover=>
   dsimp only;split<;>exact qAd _
  all_goals exact qAd _
 |halt h e=>
  cases h<;>(try dsimp only)<;>(repeat' first|exact qAd _|exact Xl _ _ _ _ _ _|exact K8 _ _ _|split)
def as2(p:Program)(m:Bool)(f:Frame)(cs:List Frame)(d:Option Dying)(w:World):w.drawn<=(GW (unwind p m f cs d w)).drawn:=by
 unfold unwind;split
 ·simp;split
  ·rename_i e;exact rZ e
  rename_i e;exact rZ e
 ·exact acV _ _ _ _ _ _
 split
 ·exact qAd _
 ·split
  ·exact qAd _
  split
  ·exact qAd _
  split
  ·split
   ·exact qAd _
   split
   ·rename_i e;exact rZ e
   ·rename_i e;exact rZ e
   rename_i e;exact rZ e
  split
  ·exact O4 _ _ _ _
  exact qAd _
 split
 ·exact Ls _ _ _ _ _ _ _
 simp only[Sem.runT_eq,Cy];split
 ·rename_i e;exact qAs (rZ e) (Ls _ _ _ _ _ _ _)
 ·rename_i e;exact rZ e
 rename_i e;exact rZ e
def atP(p:Program)(f:Frame)(cs:List Frame)(d:Option Dying)(g:Nat)(w:World):w.drawn<=(GW (early p f cs d g w)).drawn:=by
 have h:∀w:World,w.drawn<=(GW (match w.heap[g]? with
  |some (.pending c l)=>.go {frame:=f,callers:=cs,status:=.running,dying:=d} {w with heap:=w.heap.setIfInBounds g (.cells c l)}
  |_=>.ended (.stuck "early: the variable does not wait" (f.pos p)) w)).drawn:=λw=>by
  split<;>exact qAd _
 unfold early;dsimp only
 repeat' first
  |exact qAd _
  |exact h _
  |(rename_i e;exact rZ e)
  |(rename_i e;exact qAs (rZ e) (h _))
  |split
def aoC(p:Program)(r:Frame)(d:Dying)(f:Fatal)(w:World):w.drawn<=(GW (writeOn p r d f w)).drawn:=by
 unfold writeOn;dsimp only;split;·exact qAd _
 simp only[Sem.runT_eq];split;·rename_i e;exact rZ (Prod.mk.inj e).1
 ·rename_i e;exact rZ (Prod.mk.inj e).1
 ·rename_i e;exact rZ (Prod.mk.inj e).1
 rename_i e;exact rZ (Prod.mk.inj e).1
def azV(p:Program)(f:Frame)(d:Dying)(w:World):w.drawn<=(GW (die p f d w)).drawn:=by
 unfold die;split
 ·exact aoC _ _ _ _ _
 split
 ·split
  ·exact qAd _
  exact aoA _ _ _ _
 dsimp only;split
 ·exact qAd _
 ·split
  ·rename_i e;exact rZ e
  rename_i e;exact rZ e
 ·simp only[Sem.runT_eq,Cy];split
  ·rename_i e;exact rZ e
  ·rename_i e;exact rZ e
  ·rename_i e;exact rZ e
  ·rename_i e;exact qAs (rZ e) (O4 _ _ _ _)
  exact qAd _
 exact qAd _
def auo(p:Program)(m:Bool)(g:Goroutine)(w:World)(b:Bool):w.drawn<=(GW (stepG p m g w b)).drawn:=by
 unfold stepG;dsimp only;split;·exact azV _ _ _ _
 ·exact awG p m b (atJ p b K8 (Xl p) (atP p)) _ _ _ _
 exact as2 _ _ _ _ _ _
def ae1(p:Program)(rest:Rest)(d:Array Goroutine)(i:Nat)(g:Goroutine)(cases:Array CommCase)(b:Bool)
  (s:CommShape) (w:World) (m:Machine) (h:(communicate p rest d i g cases b s w).1=.next m):w.drawn<=m.world.drawn:=by
 have a:∀c,waitingAt rest cases w=some c->c.drawn=w.drawn:=λc e=>by
  unfold waitingAt at e
  grind
 unfold communicate at h;dsimp only at h;split at h
 ·cases h
 split at h
 ·split at h
  ·split at h
   ·rename_i e;cases h;exact qBm (a _ e).symm
   cases h
  cases h;exact qAd _
 split at h
 ·cases h
 rename_i e;refine qAs (rZ e) ?_;simp only[Rw];clear e
 repeat' first
  |(cases h;done)
  |(cases h;exact qAd _)
  |(rename_i e;cases h;exact rZ e)
  |split at h
def ake(p:Program)(g:Array Goroutine)(rest:Rest)(w:World)(m:Machine)
  (h:Go.look p g rest w=.next m):w.drawn<=m.world.drawn:=by
 unfold Go.look at h;dsimp only at h;split at h
 ·split at h
  ·cases h
  split at h
  ·cases h
  split at h
  ·rename_i e;cases h;exact rZ e
  ·cases h
  cases h
 cases h
def aph(m:Machine)(op:TimerOp)(v:Value)(j:Machine)(h:timerOp m op=.ok (v,j)):j.world.drawn=m.world.drawn:=by
 have l:∀(w:World) (c:Nat),(drain w c).2.drawn=w.drawn:=λw c=>by unfold drain;split<;>rfl
 have n:∀(m:Machine) (k:Nat) (t:Timer) (a b:Nat),(retime m k t a b).2.world.drawn=m.world.drawn:=λm k t a b=>by
  unfold retime
  grind
 have o:∀(i:Machine) (d:Addr) (f:Nat->Timer->Value×Machine),(∀k t,(f k t).2.world.drawn=i.world.drawn)->∀v g,timerOp.named m d f=.ok (v,g)->g.world.drawn=i.world.drawn:=λi d f p v g e=>by
  unfold timerOp.named at e
  grind
 have q:∀(d:Addr) (g:Machine),timerOp.opened m d=some g->g.world.drawn=m.world.drawn:=λd g e=>by
  unfold timerOp.opened at e
  grind
 cases op with
 |new t=>
  simp only[timerOp]at h
  repeat' first
   |(cases h;done)
   |(cases h;rfl)
   |split at h
 |stop d=>
  simp only[timerOp]at h
  grind
 |reset d a b=>
  simp only[timerOp]at h
  grind
 |deadline x r s a=>
  cases h;rfl
def Wi(f:Frame)(m:String)(w:World)(g:Goroutine)(w':World)(es:Array Event)(h:endThrow f m w=.go g w' es):w'=w:=by cases h;rfl
def atI(p:Program)(m a:Machine)(i:Nat)(b:Bool)(h:(runT p m i b).1=.next a):m.world.drawn<=a.world.drawn:=by
 simp only[runT]at h
 revert h
 generalize m.gs.swapAt! _ _=g;have c:=auo p (i==0) g.1 m.world b;generalize stepG p _ g.1 m.world b=s at *;intro h;refine qAs c ?_;cases s<;>simp only[GW]at *
 case ended=>cases h
 case comm=>exact ae1 _ _ _ _ _ _ _ _ _ _ h
 case go=>cases h;exact qAd _
 case spawn=>cases h;exact qAd _
 case count=>grind
 case alone=>cases h;exact qAd _
 case collect=>exact ake _ _ _ _ _ h
 case watch=>cases h;exact qAd _
 case newcoro=>cases h;exact qAd _
 case coroswitch=>
  split at h;·grind
  ·split at h
   ·rename_i e;cases h;rw[Wi _ _ _ _ _ _ e];exact qAd _
   cases h
  cases h
 case timer=>
  split at h;·rename_i e;cases h;exact qBm (aph _ _ _ _ e).symm
  ·split at h
   ·rename_i e;cases h;rw[Wi _ _ _ _ _ _ e];exact qAd _
   cases h
  ·cases h
  cases h
def atX(p:Program)(m a:Machine)(k:Nat)(h:serve p m k=.next a):a.world.drawn=m.world.drawn:=by
 unfold serve at h
 grind
def MW(n:Nat):Move->Prop| .goroutine m _=>n<=m.world.drawn| .machine (.next m) _=>n<=m.world.drawn| .machine (.ended _ _) _=>True
def MW.mono{a b:Nat}(h:a<=b){x:Move}(c:MW b x):MW a x:=by
 cases x with|goroutine m i=>exact qAs h c|machine s o=>cases s with|next m=>exact qAs h c|ended=>trivial
def Yh(p:Program)(rs:A5)(m:Machine):MW m.world.drawn (match(choose (.sched rs.length)).run p m.world with
   | .halt _ w=>.machine (.ended (.stuck "sched" "") w)
   | .ok k world=>
    if rs.length≤1 then .goroutine {m with world} (rs.getD k 0)else
    match(choose (.extern "sched.slice" 65536)).run p world with
    | .halt _ w=>.machine (.ended (.stuck "sched.slice" "") w)
    | .ok n world=>.goroutine {m with world,rest:={m.rest with slice:=if n=0 then none else some (rs.getD k 0,n)}} (rs.getD k 0)):=by
 split
 ·trivial
 rename_i e;have e:=rZ e;split
 ·exact e
 split
 ·trivial
 rename_i e2;exact qAs e (rZ e2)
def Vo(p:Program)(m:Machine):MW m.world.drawn (askOn p m):=by
 unfold askOn;dsimp only;split;·trivial
 ·rename_i k w1 e;have e:m.world.drawn≤w1.drawn:=rZ e;split
  ·generalize hs:serve p _ _=s;cases s with|next m'=>show m.world.drawn≤m'.world.drawn;rw[atX _ _ _ _ hs];exact e|ended=>trivial
  ·split
   ·split
    ·exact e
    ·split
     ·exact e
     ·split<;>trivial
   ·split
    ·exact MW.mono e (Yh p _ {m with world:=w1})
    ·split
     ·trivial
     ·rename_i e2;exact MW.mono (qAs e (rZ e2)) (Yh p _ {m with world:=_})
     ·rename_i e2;exact qAs e (rZ e2)
     ·rename_i e2;exact MW.mono (qAs e (rZ e2)) (Yh p _ (Machine.advanceTo {m with world:=_} _))
def aj0(p:Program)(m:Machine):MW m.world.drawn (ask p m):=by
 unfold ask;split
 ·split
  ·trivial
  ·rename_i e;have e:=rZ e;split
   ·rename_i h;exact MW.mono (qAs e (ake _ _ _ _ _ h)) (Vo p _)
   rename_i h;generalize Go.look p m.gs m.rest _=s at h;cases s with
   |next a=>exact(h a rfl).elim
   |ended=>trivial
  rename_i e;have e:=rZ e;exact MW.mono e (Vo p {m with world:=_})
 exact Vo p m
def awt(p:Program)(m:Machine):MW m.world.drawn (move p m):=by
 unfold move;split
 ·split
  ·exact qAd _
  trivial
 split
 ·split
  ·exact qAd _
  exact aj0 p {m with rest:=_}
 exact aj0 p m
def ax7(p:Program)(m a:Machine)(h:step p m=.next a):m.world.drawn<=a.world.drawn:=by unfold Go.step Go.stepT at h;have b:=awt p m;generalize move p m=x at h b;cases x with|goroutine c i=>exact qAs b (atI p c a i true h)|machine s o=>subst h;exact b
def Yl(p:Program):∀(n:Nat) (m a:Machine),runN p n m=.next a->m.world.drawn<=a.world.drawn
 |0,m,a,h=>by cases h;exact qAd _
 |n+1,m,a,h=>by
  simp only[runN]at h;cases s:step p m with
  |next b=>rw[s]at h;exact qAs (ax7 p m b s) (Yl p n b a h)
  |ended o w=>rw[s]at h;cases h
def Calls.drawn{P:Program}{f:FuncId}{args:Array Value}{w:World}{R:Ending->World->Prop}(h:Calls P f args w R)(d:∀w',¬R .outgrown w'):Calls P f args w λe w'=>R e w'/\w.drawn<=w'.drawn:=by intro s;let⟨e,w',g,r,a,i,l⟩:=h s;refine⟨e,w',g,⟨r,?_⟩,a,i,l⟩;cases e with|outgrown=>exact(d w' r).elim|returned v=>let⟨n,b⟩:=a;exact Yl P n _ _ b|panicked c=>let⟨n,b⟩:=a;exact Yl P n _ _ b
section
open Go Go.Sort
def asS{w w':World}(hs:w.heap.size<=w'.heap.size)(k:∀b:Nat,b<w.heap.size->w'.heap[b]? =w.heap[b]?)(g:w.drawn<=w'.drawn)(a:w'.os=w.os)(c:w'.tape=w.tape)(p:w'.output=w.output):∃q s,w'=grow (w.drewN q) s:=by
 refine⟨w'.drawn - w.drawn,w'.heap.extract w.heap.size w'.heap.size,?_⟩;cases w with|mk e f r j u=>
 cases w' with|mk h t d s o=>
  simp only at hs k g a c p;subst a c p;have l:h=e++h.extract e.size h.size:=by grind
  have i:d=r+(d - r):=by omega
  show World.mk h t d s o=World.mk (e++h.extract e.size h.size) t (r+(d - r)) s o
  grind
def at_nil(l:Nat):at? [] l=none:=by cases l<;>rfl
theorem ac1(ak:bU)(w:World)(p:∀b o,ak b o->b<w.heap.size):Entry [] ak [] w where
 klen:=rfl
 resv:=λl _=>at_nil l
 obj:=λl b h=>by rw[at_nil]at h;cases h
 apart:=λl a b h=>by rw[at_nil]at h;cases h
 bound:=λl b h=>by rw[at_nil]at h;cases h
 pvlt:=p
 pvdis:=λb o l _ h=>by rw[at_nil]at h;cases h
def ahx(ak:bU)(H:A6)(b o:Nat):aH ak [] H b o↔ak b o:=by
 constructor
 ·rintro(h|⟨l,h,_⟩)
  ·exact h
  rw[at_nil]at h;cases h
 exact .inl
def quiet_of{P:Program}{f:Nat}{args:An}{res:AV}(hA:eH P f args [] res [])(w:World)(ak:bU)(c:∀b o,ak b o->b<w.heap.size)(vs:List Value)(g:vs.length=args.length)
  (r:∀j,j<args.length->Rel w [] ak (args.getD j .unk) (vs.getD j undef)) (V:Value) (i:∀w' κ pv v,Rel w' κ pv res v->v=V):
  Calls P f vs.toArray w λe w'=>e=.returned V/\∃q s,w'=grow (w.drewN q) s:=by
 have p:aH ak [] []=ak:=by funext b o;exact propext (ahx ak [] b o)
 have h:=Calls.drawn (hA [] ak w vs (ac1 ak w c) g (by rw[p];exact r)) (by rintro w' ⟨v,d,h,_⟩;cases h);refine h.mono ?_;rintro e w' ⟨⟨v,d,rfl,a,k⟩,m⟩;refine⟨by rw[i _ _ _ _ k],asS a.ny.size (λb n=>a.kept b n λl h=>by rw[at_nil]at h;cases h) m a.os a.tape a.output⟩
end
end Abs
end Go.Proofs.YtneeginmfjageaaGreat
namespace Go.Proofs
open Go.Shelf
def Tryz.afH:Go.Shelf.Ren:=⟨λ|7=>195|10=>277|n=>n,λ|23=>107|26=>9|3=>4|28=>196|0=>0|27=>195|33=>133|4=>4|n=>n,λ|n=>n⟩
set_option maxRecDepth 100000 in
def Tryz.aED:Go.Proofs.SlLaysZ.n7 Tryz.prog Tryz.afH:={
 mixed:=by kernel_rfl
 f7:=⟨Tryz.f195.name,by decide,Tryz.func195.trans (congrArg some (by kernel_rfl))⟩
 f10:=⟨Tryz.f277.name,by decide,Tryz.func277.trans (congrArg some (by kernel_rfl))⟩
 t0:=Tryz.underlying0
 a0:=Tryz.isAgg0
 z0:=Tryz.sizeOf0
 v0:=Tryz.zeroValue0
 t4:=Tryz.underlying4
 a4:=Tryz.isAgg4
 z4:=Tryz.sizeOf4
 v4:=Tryz.zeroValue4
 t23:=Tryz.underlying107
 a23:=Tryz.isAgg107
 z23:=Tryz.sizeOf107
 v23:=Tryz.zeroValue107
 t26:=Tryz.underlying9
 a26:=Tryz.isAgg9
 z26:=Tryz.sizeOf9
 v26:=Tryz.zeroValue9
 t27:=Tryz.underlying195
 a27:=Tryz.isAgg195
 z27:=Tryz.sizeOf195
 v27:=Tryz.zeroValue195
 t28:=Tryz.underlying196
 a28:=Tryz.isAgg196
 z28:=Tryz.sizeOf196
 v28:=Tryz.zeroValue196
 t33:=Tryz.underlying133
 a33:=Tryz.isAgg133
 z33:=Tryz.sizeOf133
 v33:=Tryz.zeroValue133}
def Tryz.ZJ:Go.Shelf.Ren:=⟨λ|6=>194|8=>275|9=>276|11=>321|13=>200|12=>322|23=>286|24=>287|14=>339|15=>340|16=>341|17=>342|18=>343|19=>344|20=>345|21=>346|22=>347|25=>349|26=>324|27=>325|28=>350|29=>351|30=>352|31=>353|n=>n,λ|26=>9|28=>196|24=>61|0=>0|3=>3|37=>202|48=>243|50=>245|4=>4|40=>237|39=>236|45=>205|5=>5|9=>9|51=>257|55=>261|57=>273|58=>171|33=>133|n=>n,λ|n=>n⟩
set_option maxRecDepth 100000 in
def Tryz.ay5:Go.Proofs.SlLaysZ.n6 Tryz.prog Tryz.ZJ:={
 mixed:=by kernel_rfl
 f6:=⟨Tryz.f194.name,by decide,Tryz.func194.trans (congrArg some (by kernel_rfl))⟩
 f8:=⟨Tryz.f275.name,by decide,Tryz.func275.trans (congrArg some (by kernel_rfl))⟩
 f11:=⟨Tryz.f321.name,by decide,Tryz.func321.trans (congrArg some (by kernel_rfl))⟩
 t0:=Tryz.underlying0
 a0:=Tryz.isAgg0
 z0:=Tryz.sizeOf0
 v0:=Tryz.zeroValue0
 t24:=Tryz.underlying61
 a24:=Tryz.isAgg61
 z24:=Tryz.sizeOf61
 v24:=Tryz.zeroValue61
 t26:=Tryz.underlying9
 a26:=Tryz.isAgg9
 z26:=Tryz.sizeOf9
 v26:=Tryz.zeroValue9
 t28:=Tryz.underlying196
 a28:=Tryz.isAgg196
 z28:=Tryz.sizeOf196
 v28:=Tryz.zeroValue196
 i26:=by kernel_rfl}
def Tryz.atw:Go.Shelf.Ren:=⟨λ|6=>276|8=>200|9=>322|19=>286|20=>287|21=>339|22=>340|23=>341|24=>342|25=>343|26=>344|27=>345|28=>346|29=>347|36=>349|31=>324|32=>325|37=>350|38=>351|39=>352|41=>353|n=>n,λ|27=>61|29=>9|3=>3|32=>202|26=>61|0=>0|44=>243|46=>245|4=>4|36=>237|35=>236|41=>205|5=>5|9=>9|53=>257|57=>261|63=>273|64=>171|n=>n,λ|n=>n⟩
set_option maxRecDepth 100000 in
def Tryz.avU:Go.Proofs.SlLaysM.n6 Tryz.prog Tryz.atw:={
 mixed:=by kernel_rfl
 f6:=⟨Tryz.f276.name,by decide,Tryz.func276.trans (congrArg some (by kernel_rfl))⟩
 f8:=Tryz.func200.trans (congrArg some (by kernel_rfl))
 f9:=⟨Tryz.f322.name,by decide,Tryz.func322.trans (congrArg some (by kernel_rfl))⟩
 f19:=Tryz.func286.trans (congrArg some (by kernel_rfl))
 f20:=Tryz.func287.trans (congrArg some (by kernel_rfl))
 f21:=⟨Tryz.f339.name,by decide,Tryz.func339.trans (congrArg some (by kernel_rfl))⟩
 f22:=⟨Tryz.f340.name,by decide,Tryz.func340.trans (congrArg some (by kernel_rfl))⟩
 f23:=⟨Tryz.f341.name,by decide,Tryz.func341.trans (congrArg some (by kernel_rfl))⟩
 f24:=⟨Tryz.f342.name,by decide,Tryz.func342.trans (congrArg some (by kernel_rfl))⟩
 f25:=⟨Tryz.f343.name,by decide,Tryz.func343.trans (congrArg some (by kernel_rfl))⟩
 f26:=⟨Tryz.f344.name,by decide,Tryz.func344.trans (congrArg some (by kernel_rfl))⟩
 f27:=⟨Tryz.f345.name,by decide,Tryz.func345.trans (congrArg some (by kernel_rfl))⟩
 f28:=⟨Tryz.f346.name,by decide,Tryz.func346.trans (congrArg some (by kernel_rfl))⟩
 f29:=⟨Tryz.f347.name,by decide,Tryz.func347.trans (congrArg some (by kernel_rfl))⟩
 f31:=Tryz.func324.trans (congrArg some (by kernel_rfl))
 f32:=Tryz.func325.trans (congrArg some (by kernel_rfl))
 f36:=⟨Tryz.f349.name,by decide,Tryz.func349.trans (congrArg some (by kernel_rfl))⟩
 f37:=⟨Tryz.f350.name,by decide,Tryz.func350.trans (congrArg some (by kernel_rfl))⟩
 f38:=⟨Tryz.f351.name,by decide,Tryz.func351.trans (congrArg some (by kernel_rfl))⟩
 f39:=⟨Tryz.f352.name,by decide,Tryz.func352.trans (congrArg some (by kernel_rfl))⟩
 f41:=⟨Tryz.f353.name,by decide,Tryz.func353.trans (congrArg some (by kernel_rfl))⟩
 t0:=Tryz.underlying0
 a0:=Tryz.isAgg0
 z0:=Tryz.sizeOf0
 v0:=Tryz.zeroValue0
 t3:=Tryz.underlying3
 a3:=Tryz.isAgg3
 z3:=Tryz.sizeOf3
 v3:=Tryz.zeroValue3
 t4:=Tryz.underlying4
 a4:=Tryz.isAgg4
 z4:=Tryz.sizeOf4
 v4:=Tryz.zeroValue4
 t5:=Tryz.underlying5
 a5:=Tryz.isAgg5
 z5:=Tryz.sizeOf5
 v5:=Tryz.zeroValue5
 t9:=Tryz.underlying9
 a9:=Tryz.isAgg9
 z9:=Tryz.sizeOf9
 v9:=Tryz.zeroValue9
 t26:=Tryz.underlying61
 a26:=Tryz.isAgg61
 z26:=Tryz.sizeOf61
 v26:=Tryz.zeroValue61
 t27:=Tryz.underlying61
 a27:=Tryz.isAgg61
 z27:=Tryz.sizeOf61
 v27:=Tryz.zeroValue61
 t29:=Tryz.underlying9
 a29:=Tryz.isAgg9
 z29:=Tryz.sizeOf9
 v29:=Tryz.zeroValue9
 t32:=Tryz.underlying202
 a32:=Tryz.isAgg202
 z32:=Tryz.sizeOf202
 v32:=Tryz.zeroValue202
 t35:=Tryz.underlying236
 a35:=Tryz.isAgg236
 z35:=Tryz.sizeOf236
 v35:=Tryz.zeroValue236
 t36:=Tryz.underlying237
 a36:=Tryz.isAgg237
 z36:=Tryz.sizeOf237
 v36:=Tryz.zeroValue237
 t41:=Tryz.underlying205
 a41:=Tryz.isAgg205
 z41:=Tryz.sizeOf205
 v41:=Tryz.zeroValue205
 t44:=Tryz.underlying243
 a44:=Tryz.isAgg243
 z44:=Tryz.sizeOf243
 v44:=Tryz.zeroValue243
 t46:=Tryz.underlying245
 a46:=Tryz.isAgg245
 z46:=Tryz.sizeOf245
 v46:=Tryz.zeroValue245
 t53:=Tryz.underlying257
 a53:=Tryz.isAgg257
 z53:=Tryz.sizeOf257
 v53:=Tryz.zeroValue257
 t57:=Tryz.underlying261
 a57:=Tryz.isAgg261
 z57:=Tryz.sizeOf261
 v57:=Tryz.zeroValue261
 t63:=Tryz.underlying273
 a63:=Tryz.isAgg273
 z63:=Tryz.sizeOf273
 v63:=Tryz.zeroValue273
 t64:=Tryz.underlying171
 a64:=Tryz.isAgg171
 z64:=Tryz.sizeOf171
 v64:=Tryz.zeroValue171}
end Go.Proofs
namespace Go.Proofs.YtneeginmfjageaaGreat
namespace Abs
section
open Go Go.Proofs Go.RowKit Go.Maps Go.Sort Go.Shelf
def aCV(m:Nat):AnyZ.SortsIn Tryz.prog Tryz.ZJ Fence.wide m:=
 ⟨λb o c a W d h s=>callsIn_wide.2 (AnyM.slices_Sort_string Tryz.avU b o c a W d h s),
  λp c W=>callsIn_wide.2 (AnyM.slices_Sort_string_none Tryz.avU p c W)⟩
set_option maxHeartbeats 1000000 in
def axv(b m n:Nat)(d:DataW Unit)(R:Value->Option (DataW Unit×List MemPlace))(w:World)(c:m<w.heap.size)(g:w.cell? ⟨m,0,none⟩=some (.map (some b)))(o:w.ownsMap Tryz.prog 9 R b n d)(a:Maps.size d<=maxLen)(h:Maps.size d*16<=140737488355328):
  CallsIn Fence.wide 5 Tryz.prog 194 #[.func (.func 277) #[] #[.pointer (some ⟨m,0,none⟩)]] w λe f=>∃(v:Value) (s:List By),e=.returned v/\s.Perm (strKeys d)/\
   f.ownsRow w.heap.size 9 1 v s.length ((s.mergeSort (λx y=>decide (x<=y))).map encStr)/\(v=.slice none 0 0↔s=[])/\Below w.heap.size w f:=by
 have q:SeqGives Fence.wide 2 Tryz.prog 277 #[.pointer (some ⟨m,0,none⟩)] encStr (λs=>s.Perm (strKeys d)) (Maps.size d) w:=
  AnyZ.keys_gives (ρ:=Tryz.afH) {Tryz.aED with} Fence.wide _ trivial rfl Cl m b n d _ c g o
 exact AnyZ.sorted_in Tryz.ay5 Fence.wide 5 trivial trivial trivial trivial rfl Cl (aCV _) (enters_of Tryz.func276 Cs rfl) 277 #[.pointer (some ⟨m,0,none⟩)] trivial (enters_of Tryz.func277 Cs rfl) _ _ a h _ q
def Leave.same{κ:aS}{ak:bU}{H:A6}{w w':World}(f:Entry κ ak H w)(a:Go.RowKit.Below w.heap.size w w'):Leave κ κ ak H H w w':=by
 have d:∀b o u,w.cell? ⟨b,o,none⟩=some u->w'.cell? ⟨b,o,none⟩=some u:=λb o u i=>by have t:=lt_of_cell i;simp only[World.cell?,a.block b t]at i|-;exact i
 have v:Evo (aH ak κ H) w w':=⟨a.size,λb o u _ i=>d b o u i,λb c e z x=>⟨c,by rw[a.block b (qBi.1 x).1];exact x,rfl⟩⟩;exact⟨f.klen,qAd _,dL.refl _,f.resv,λl b g j=>(f.obj l b g j).mono (a.block b (f.bound l b g)) v (dL.refl _) (λ_ _ h _=>h),
  λl b g j=>.inr ⟨l,g,j⟩,f.apart,λl b g=>qAB (f.bound l b g) a.size,λb t _=>a.block b t,v,λ_ _ h _=>h,a.os,a.tape,a.output⟩
def avp{κ:aS}{ak:bU}{H:A6}{w:World}(e:Entry κ ak H w){b o:Nat}(h:aH ak κ H b o):b<w.heap.size:=by
 rcases h with h|⟨l,a,_⟩
 ·exact e.pvlt b o h
 exact e.bound l b a
def apT(H:A6)(p m:Nat)(es:List (By×AV))(hp:obj? H p=.box [.mapr m])(hm:obj? H m=.mp es)(G:es.length*16<=140737488355328):
  eH Tryz.prog 194 [.func 277 [.ptr p 0]] H (.slice (((es.map (·.1)).mergeSort leS).map encS) .shared) H:=by
 intro o ak w vs n I hr;have h0:=hr 0 cn
 match vs,I with
 |[v],_=>
 simp only[List.getD,qAG,qAw]at h0;obtain⟨cs,rfl,Z,hcr⟩:=h0.LD
 match cs,Z with
 |[cp],_=>
 have J:=hcr 0 cn;simp only[List.getD,qAG,qAw]at J;obtain⟨W,rfl,K⟩:=J.sD;have ho:=n.obj p W K (by rw[hp];trivial);rw[hp]at ho;let⟨c,el,g1,g2,g3⟩:=ho;have F:=g3 0 cn;simp only[List.getD,qAG,qAw]at F;have l:w.cell? ⟨W,0,none⟩=some (c.getD 0 undef):=by
  have:0<c.size:=by rw[g2];simp
  simp[World.cell?,g1,Array.getD,this]
 generalize c.getD 0 undef=cv at F l;cases F with
 |@mapr _ b hb=>
 have M:=n.obj m b hb (by rw[hm];trivial);rw[hm]at M;let⟨s,q,k1,k2,X,k4⟩:=M;have k31:es.length<=140737488355328:=by have:=X.1;rwa[qAi]at this
 have hk9:Tryz.prog.underlying 9=some .string:=by kernel_rfl
 let R:Value->Option (DataW Unit×List MemPlace):=λ_=>some (.lit (.bool true),[])
 have t:∀j,(k:j<s.size)->keyOf Tryz.prog 9 s[j].key=some (.string (es.getD j ([],.unk)).1):=λj k=>by
  have h5:=(k4 j Cl).1;have e:s.getD j default=s[j]:=by simp[Array.getD,k]
  rw[e]at h5;rw[h5,Go.WideMaps.keyOf_string_mk hk9];have N:(es.getD j ([],.unk)).1∈es.map (·.1):=by
   have hj':j<es.length:=by omega
   rw[List.getD,qAc hj',qAw];exact qAJ.2 ⟨_,qAO _,rfl⟩
  have:=X.2.2 _ N;simpa[ByteArray.size,maxLen]using this
 have O:∀j,(k:j<s.size)->WideElems.rd Tryz.prog 9 R s[j]=some (.string (es.getD j ([],.unk)).1,.lit (.bool true)):=λj k=>by
  simp only[WideElems.rd,t j k,qAb,R,qAx]
 have P:w.ownsMap Tryz.prog 9 R b es.length (.map ((s.toList.map (WideElems.rg Tryz.prog 9 R)).foldr DataW.insert [])):=by
  refine⟨s,q,k1,⟨?_,X.2.1,λx Y=>?_⟩,by omega,rfl⟩
  ·simp only[maxLen];omega
  obtain⟨j,k,rfl⟩:=qBy Y;simp only[qBZ]at k;exact⟨_,by simpa using O j k⟩
 have f:(strKeys (.map ((s.toList.map (WideElems.rg Tryz.prog 9 R)).foldr DataW.insert []))).Perm (es.map (·.1)):=by
  simp only[strKeys];refine((WideShapes.sorted_perm _).map _).trans ?_;have e:(s.toList.map (WideElems.rg Tryz.prog 9 R)).map (λp=>strOf p.1)=es.map (·.1):=by
   apply qBO
   ·simp[k2]
   intro j J F;simp only[qAi,qBZ]at J F;simp only[qDo,qDF];rw[WideElems.rg_of (O j J)];simp[strOf,List.getD,qAc F]
  rw[e]
 have Q:Maps.size (H:=Unit) (.map ((s.toList.map (WideElems.rg Tryz.prog 9 R)).foldr DataW.insert []))=es.length:=by
  rw[size_eq,DataW.length_sorted];simp[k2]
 have u:=callsIn_wide.1 (axv b W es.length _ R w (n.bound p W K) l P (by rw[Q];simp only[maxLen];omega) (by rw[Q];exact G));refine u.mono ?_;rintro e w' ⟨v,ss,rfl,S,r,_,T⟩;refine⟨v,o,rfl,Leave.same n T,?_⟩;have z:ss.mergeSort (λx y=>decide (x<=y))=(es.map (·.1)).mergeSort leS:=mergeSort_of_perm (S.trans f);rw[z]at r;generalize hL:(es.map (·.1)).mergeSort leS=L at r;have hLl:L.length=es.length:=by rw[<-hL];simp
 have U:ss.length=es.length:=by have:=(S.trans f).length_eq;simpa using this
 have hLk:∀x∈L,x.length<=9223372036854775807:=λx Y=>X.2.2 x (by rw[<-hL]at Y;exact(List.mergeSort_perm _ _).mem_iff.1 Y);let⟨hrl,r⟩:=r;rcases r with⟨rfl,hz⟩|⟨g,A,B,rfl,hbase,hg,hcap,_,hcur,C⟩
 ·have:L=[]:=qAD.1 Cl;subst this;have:=Rel.slice (w:=w') (κ:=o) (pv:=aH ak o H) (es:=[]) (tag:=.shared) (a:=none) (cap:=0) 0 0 1 (λ_ _=>undef) (λi h=>by cases h) (λh=>(h rfl).elim) (qAd _) cn (λi j h=>by cases h) (λi j h=>by cases h) (λi j h=>by cases h) trivial;simpa using this
 have hgi:∀i,i<L.length->w'.cell? ⟨g,0+(i*1+0),none⟩=some (encStr (L.getD i [])):=λi d=>by
  have V:i<B.size:=by omega
  have e1:B[i]=encStr (L.getD i []):=by
   have:(B.toList.take (ss.length*1))[i]? =some (encStr (L.getD i [])):=by
    rw[C,qAE,qAc d];simp[List.getD,qAc d]
   rw[qBq,if_pos Cl]at this;simpa[V]using this
  have e0:0+(i*1+0)=i:=by omega
  rw[e0];simp[World.cell?,hg,V,e1]
 have D:(L.map encS).length=es.length:=by simp[hLl]
 have:=Rel.slice (w:=w') (κ:=o) (pv:=aH ak o H) (es:=L.map encS) (tag:=.shared) (a:=some ⟨g,0,none⟩) (cap:=A) g 0 1 (λi _=>encStr (L.getD i []))
  (λi d=>by simp only[qAi]at d;simp[List.getD,qAc d,encS]) (λ_=>rfl) Cl Cl
  (λi j _ _ hpv=>by have:=avp n hpv;omega)
  (λi j d k=>by
   simp only[qAi]at d;have E:j=0:=by omega
   subst E;exact hgi i d)
  (λi j d k=>by
   simp only[qAi]at d;have E:j=0:=by omega
   subst E;have e:((L.map encS).getD i []).getD 0 .unk=.str (L.getD i []):=by simp[List.getD,qAc d,encS]
   rw[e];refine .str (hLk _ ?_);rw[List.getD,qAc d];exact qAO _) trivial
 rw[D]at this;rw[U];exact this
end
def aFq:mQ Tryz.prog 194=true:=by kernel_rfl
def SC(n:Nat)(a:List (Str×Bool))(r:Bk)(h:ow n a=some r):
  eH Tryz.prog 194 [.func 277 [.ptr 0 0]] [.box [.mapr 1],.mp (List.map (λp=>(p.1,(λ(x:Bool)=>.bool x) p.2)) a)] (.slice (List.map encS r) .shared) [.box [.mapr 1],.mp (List.map (λp=>(p.1,(λ(x:Bool)=>.bool x) p.2)) a)]:=by
 unfold ow at h;split at h;·rename_i l;have e:=Option.some.inj h;subst e;have:=apT [.box [.mapr 1],.mp (List.map (λp=>(p.1,(λ(x:Bool)=>.bool x) p.2)) a)] 0 1 _ rfl rfl (by simpa using l);simpa[qBh,qCv]using this
 cases h
def aGp:mQ Tryz.prog 47=true:=by kernel_rfl
set_option maxHeartbeats 1000000 in
set_option maxRecDepth 100000 in
def aok(a b:ByteArray)(w:World):Calls Tryz.prog 97 #[.string a,.string b] w λe c=>e=.returned (.int .i64 (Lib.compareBytes a.data.toList b.data.toList))/\c=w:=by
 go_enter Tryz.func97,Tryz.ntmps97
 go_wp2
 rw[run_callFunc_extern Tryz.func173 Cs Cs Cs (e:=Extern.BytealgCompare.compare) Cs,Lib.run_compareString];simp only[Result.andThen];rw[Oper.upon_value]
 go_wp2
 go_ret
 exact⟨rfl,rfl⟩
set_option maxHeartbeats 1000000 in
set_option maxRecDepth 100000 in
def aoy(a b:ByteArray)(w:World):Calls Tryz.prog 47 #[.string a,.string b] w λe c=>e=.returned (.int .i64 (Lib.compareBytes a.data.toList b.data.toList))/\c=w:=by
 go_enter Tryz.func47,Tryz.ntmps47
 go_wp2_with (go_at_call 97;refine(aok _ _ _).mono ?_;rintro e c ⟨rfl,rfl⟩)
 go_ret
 exact⟨rfl,rfl⟩
def ano:∀a b:Str,Lib.compareBytes a b= -1∨Lib.compareBytes a b=0∨Lib.compareBytes a b=1
 |[],[]=>by simp[Lib.compareBytes]
 |[],_::_=>by simp[Lib.compareBytes]
 |_::_,[]=>by simp[Lib.compareBytes]
 |a::x,b::y=>by
  have:=ano x y;simp only[Lib.compareBytes]
  grind
def ab5(n:Nat)(p:Str)(a:Str)(r:Int)(h:strings_Compare n p a=some r):eH Tryz.prog 47 [.str p,.str a] [] (.int .i64 r) []:=by
 have e:=Option.some.inj h;subst e;intro g ak w s b l c
 match s,l with|[v,u],_=>have d:=c 0 cn;have f:=c 1 cn;simp only[List.getD,qAG,qBp,qAw]at d f;let⟨i,_⟩:=d.BK;let⟨j,_⟩:=f.BK;subst i j;refine(aoy _ _ w).mono ?_;rintro e k ⟨rfl,rfl⟩;refine⟨_,g,rfl,Leave.same b (qCO _ _),?_⟩;refine .int ?_;rcases ano p a with h|h|h<;>simp[h,sj,IntKind.min,IntKind.max,IntKind.signed,IntKind.bits]
end Abs
end Go.Proofs.YtneeginmfjageaaGreat

/-
  The count of draws never falls. Conditions: none; about the model's own steps, over any program.
-/
import GoSem.Step
import Derived.Laws.World
import Derived.Control
import Derived.Lone
import Derived.Calls
import Derived.Sort.Grow
import Derived.Deep.Draws
import Derived.Shelf.SlGeneric
import Derived.Shelf.SlIter.Nil
import Derived.Shelf.SortM.Plain
import Derived.Shelf.SortM.SortNone
import Derived.Ground.GgzProg
import Derived.Ground.SlgmProg
import Derived.Test.YtneeginmfjageaaGreatProg
import Derived.KernelRfl
import Derived.Tactics
import Derived.Tactics2
import Derived.WalkKit
import Derived.Laws.Externs
import Derived.Test.YtneeginmfjageaaGreatCD33ox84c808
set_option linter.all false
namespace Go.Proofs.YtneeginmfjageaaGreat
namespace Abs
section
open Go
def Rw{α:Type}:Result α->World| .ok _ w=>w| .halt _ w=>w
theorem azf{α}:∀(x:Ask α) (w:World),w.drawn<=(w.ask x).2.drawn:=by
 intro x
 induction x with|done a=>exact λw=>qAd _|ask h r k i=>
  unfold World.ask
  grind
theorem ams(w:World) c:w.drawn<=(w.sys c).2.drawn:=by
 have h:=azf (Kernel.perform c w.os) w;unfold World.sys
 grind
theorem apY(w:World) a n:(w.freeze a n).drawn=w.drawn:=by
 unfold World.freeze
 grind
theorem akA{P}{w w':World}{a v b l}(h:w.farStore P a v b=.ok (w',l)):w'.drawn=w.drawn:=by
 unfold World.farStore at h;split at h
 ·split at h
  ·rename_i r e;cases h;simp only[World.viewStore,bind,Except.bind]at e
   repeat' first
    |(cases e;done)
    |(cases e;rfl)
    |split at e
  cases h
 cases h
theorem Lm{α} P:∀(s:Sem α) w,w.drawn<=(Rw (s.run P w)).drawn:=by
 intro s
 induction s with
 |pure a=>exact λw=>qAd _|halt h=>exact λw=>qAd _|choose q k i=>
  intro w;unfold Sem.run
  grind
 |sys c k i=>intro w;unfold Sem.run;exact qAu (ams w c) (i _ _)|program k i=>intro w;unfold Sem.run;exact i _ w|mark m k i=>intro w;unfold Sem.run;exact i w|new o k i=>intro w;unfold Sem.run;exact i w.heap.size {w with heap:=w.heap.push o}
 |shape r k i=>intro w;unfold Sem.run;exact i _ w|frozen a k i=>intro w;unfold Sem.run;exact i _ w|freeze a n k i=>intro w;unfold Sem.run;have:=i (w.freeze a n);rw[apY]at this;exact this|getObj r k i=>
  intro w;unfold Sem.run;split;·exact qAd _
  ·grind
  exact qAd _
 |setObj r o k i=>
  intro w;unfold Sem.run;split;·exact qAd _
  ·grind
  exact qAd _
 |load m a k i=>
  intro w;unfold Sem.run;split;·grind
  split;·grind
  exact qAd _
 |store m a v k i=>
  intro w;have y:w.drawn<=(Rw (match w.cell? a with
   |some _=>if w.frozen? a then .halt (.unsupported (.unsafePointer "a write to bytes that a string shares")) w else k.run P (w.setCell a v)|none=>match w.farStore P a v (m==.atomic)with
    | .ok (w,_)=>k.run P w| .error h=>.halt h w)).drawn:=by
   split
   ·split
    ·exact qAd _
    exact i (w.setCell a v)
   split;·rename_i b _ e;have:=i b;rw[akA e]at this;exact this
   exact qAd _
  cases v<;>first|exact qAd _|exact y
def GW:GStep->World| .go _ w _=>w| .comm _ _ _ _ w _=>w| .spawn _ _ w _=>w| .count _ w _=>w| .timer _ _ w _=>w| .alone _ _ w _=>w| .newcoro _ _ _ w _=>w| .coroswitch _ _ _ w _=>w| .collect _ w _=>w| .watch _ w _=>w| .ended _ w _=>w
theorem A8 es s:GW (s.after es)=GW s:=by cases s<;>rfl
theorem Jf p main fr cs d v w:w.drawn<=(GW (doReturn p main fr cs d v w)).drawn:=by
 unfold doReturn
 repeat' first
  |exact qAd _
  |(rw[A8])
  |split
theorem amR w fd b o:w.drawn<=(GW (endWith w fd b o)).drawn:=by have h:=ams w (.write fd b);unfold endWith;generalize w.sys (.write fd b)=x at h;obtain⟨r,a⟩:=x;cases r<;>dsimp only<;>(repeat' first|exact h|split)
theorem asq p listen (b:∀(f:Frame) (m:String) (w:World),w.drawn<=(GW (endThrow f m w)).drawn)(i:∀(f:Frame) (cs:List Frame) (d:Option Dying) (m:String) (w:World),w.drawn<=(GW (endFatal p f cs d m w)).drawn)
  (c:∀(f:Frame) (cs:List Frame) (d:Option Dying) (g:Nat) (w:World),w.drawn<=(GW (early p f cs d g w)).drawn) f cs d s w:w.drawn<=(GW (stepG.apply p listen f cs d s w)).drawn:=by
 have j:=Lm p s w;have t:(if listen then s.runT p w #[]else(s.run p w,#[])).1=s.run p w:=by
  split;·simp_all
  rfl
 unfold stepG.apply;dsimp only;generalize (if listen then s.runT p w #[]else(s.run p w,#[]))=x at t;obtain⟨r,l⟩:=x;simp only at t;subst t;dsimp only;rw[A8];refine qAu j ?_;cases s.run p w with
 |ok a k=>simp only[Rw];cases a<;>(try dsimp only)<;>(repeat' first|exact qAd _|exact b _ _ _|(exfalso;simp_all;done)|split)
 |halt h k=>simp only[Rw];cases h<;>(try dsimp only)<;>(repeat' first|exact qAd _|exact b _ _ _|exact i _ _ _ _ _|exact c _ _ _ _ _|(exfalso;simp_all;done)|(rename_i e;cases e;first|exact qAd _|exact c _ _ _ _ _)|split)
theorem avd{α} p (s:Sem α) w es:w.drawn<=(Rw (s.runT p w es).1).drawn:=by rw[Sem.runT_eq];exact Lm p s w
theorem avI p (m l:Bool)(h:∀(f:Frame) (cs:List Frame) (d:Option Dying) (s:Sem Next) (w:World),w.drawn<=(GW (stepG.apply p l f cs d s w)).drawn) f cs d w:w.drawn<=(GW (stepG.oper p l f cs d w)).drawn:=by
 unfold stepG.oper
 repeat' first|exact qAd _|exact h _ _ _ _ _|split
theorem avK p main listen (b:∀(f:Frame) (cs:List Frame) (d:Option Dying) (s:Sem Next) (w:World),w.drawn<=(GW (stepG.apply p listen f cs d s w)).drawn) f cs d w:w.drawn<=(GW (stepG.exec p main listen f cs d w)).drawn:=by
 have n:=avI p main listen b;have q:∀(j:Option Code) (l:Nat),w.drawn<=(GW (GStep.after (seen p f.fn ((Instr.endRound l j).runT p w #[]).2) (match((Instr.endRound l j).runT p w #[]).1 with| .ok v w=>doReturn p main f cs d v w| .halt _ w=>.ended (.stuck "range over a function: no such loop" (f.pos p)) w))).drawn:=λj l=>by
  rw[A8];refine qAu (avd p (Instr.endRound l j) w #[]) ?_;split;·rename_i e;rw[e];exact Jf _ _ _ _ _ _ _
  rename_i e;rw[e];exact qAd _
 have a:∀{c:Type} {x:Sem c} {r:Result c},x.run p w=r->w.drawn<=(Rw r).drawn:=λe=>by rw[<-e];exact Lm p _ w
 have h:∀(j:Option Code) (g:GStep),w.drawn<=(GW g).drawn->w.drawn<=(GW (match f.roundOf with|none=>g|some l=>GStep.after (seen p f.fn ((Instr.endRound l j).runT p w #[]).2) (match((Instr.endRound l j).runT p w #[]).1 with| .ok v w=>doReturn p main f cs d v w| .halt _ w=>.ended (.stuck "range over a function: no such loop" (f.pos p)) w))).drawn:=λj g t=>by
  split;·exact t
  exact q _ _
 unfold stepG.exec;dsimp only;split
 all_goals(try exact qAd _)
 all_goals(try exact b _ _ _ _ _)
 ·exact h none _ (qAd _)
 ·exact h (some .ret) _ (qAd _)
 ·split<;>exact qAd _
 ·rename_i i k _;cases exitTo i k with|none=>exact h (some (.exit i)) _ (qAd _)|some x=>exact qAd _
 ·rename_i l k _;cases gotoIn l k with|none=>exact h (some (.goto l)) _ (qAd _)|some x=>exact qAd _
 ·simp only[Sem.runT_eq,A8];split
  ·rename_i e;exact qAu (a e) (b _ _ _ _ _)
  rename_i e;exact a e
 ·simp only[Sem.runT_eq,A8];split
  ·rename_i e;exact a e
  ·rename_i e;exact a e
  rename_i e;exact a e
 ·rename_i o m k _;cases Extern.next o with|none=>exact qAd _|some e=>exact b _ _ _ _ _
 ·split
  ·exact qAd _
  split;·rename_i e;exact a e
  rename_i e;exact a e
 split;·exact n _ _ _ _
 exact qAd _
theorem JB fr m w:w.drawn<=(GW (endThrow fr m w)).drawn:=qAd _
theorem qb{α p w}{x:Sem α}{r}(e:x.run p w=r):w.drawn<=(Rw r).drawn:=by rw[<-e];exact Lm p _ w
theorem Te p fr cs d m w:w.drawn<=(GW (endFatal p fr cs d m w)).drawn:=by
 unfold endFatal;dsimp only;split;·rename_i e;exact qb e
 ·rename_i e;exact qb e
 rename_i e;exact qb e
theorem ML p fr v w:w.drawn<=(GW (endPrinting p fr v w)).drawn:=by
 unfold endPrinting;dsimp only;split;·exact JB _ _ _
 exact qAd _
theorem aED{c}[Decidable c]{n a b}(h:n<=(GW a).drawn)(h2:n<=(GW b).drawn):n<=(GW (if c then a else b)).drawn:=by grind
theorem aaq p fr cs dy d w:w.drawn<=(GW (callDeferred p fr cs dy d w)).drawn:=by
 refine aED (qAd _) ?_
 have r:=Lm p (invoke d.target d.args) w;simp only[Sem.runT_eq,A8];refine qAu r ?_;cases(invoke d.target d.args).run p w with
 |ok a e=>
  cases a
  case coroswitch c b=>cases b<;>exact qAd _
  case alone b v=>cases b<;>exact qAd _
  case recover=>dsimp only;split<;>exact qAd _
  all_goals exact qAd _
 |halt h e=>cases h<;>(try dsimp only)<;>(repeat' first|exact qAd _|exact Te _ _ _ _ _ _|exact JB _ _ _|split)
theorem aqG p main fr cs dy w:w.drawn<=(GW (unwind p main fr cs dy w)).drawn:=by
 unfold unwind;split
 ·simp;split
  ·rename_i e;exact qb e
  rename_i e;exact qb e
 ·exact aaq _ _ _ _ _ _
 split;·exact qAd _
 ·split
  ·exact qAd _
  split;·exact qAd _
  split
  ·split
   ·exact qAd _
   split;·rename_i e;exact qb e
   ·rename_i e;exact qb e
   rename_i e;exact qb e
  split;·exact ML _ _ _ _
  exact qAd _
 split;·exact Jf _ _ _ _ _ _ _
 simp only[Sem.runT_eq,A8];split;·rename_i e;exact qAu (qb e) (Jf _ _ _ _ _ _ _)
 ·rename_i e;exact qb e
 rename_i e;exact qb e
theorem asS p fr cs dy g w:w.drawn<=(GW (early p fr cs dy g w)).drawn:=by
 have h:∀w:World,w.drawn<=(GW (match w.heap[g]? with
  |some (.pending c l)=>.go {frame:=fr,callers:=cs,status:=.running,dying:=dy} {w with heap:=w.heap.setIfInBounds g (.cells c l)}
  |_=>.ended (.stuck "early: the variable does not wait" (fr.pos p)) w)).drawn:=λw=>by split<;>exact qAd _
 unfold early;dsimp only
 repeat' first
  |exact qAd _
  |exact h _
  |(rename_i e;exact qb e)
  |(rename_i e;exact qAu (qb e) (h _))
  |split
theorem ana p fr d f w:w.drawn<=(GW (writeOn p fr d f w)).drawn:=by
 unfold writeOn;dsimp only;split;·exact qAd _
 simp only[Sem.runT_eq];split;·rename_i e;exact qb (Prod.mk.inj e).1
 ·rename_i e;exact qb (Prod.mk.inj e).1
 ·rename_i e;exact qb (Prod.mk.inj e).1
 rename_i e;exact qb (Prod.mk.inj e).1
theorem azh p fr d w:w.drawn<=(GW (die p fr d w)).drawn:=by
 unfold die;split;·exact ana _ _ _ _ _
 split
 ·split
  ·exact qAd _
  exact amR _ _ _ _
 dsimp only;split;·exact qAd _
 ·split
  ·rename_i e;exact qb e
  rename_i e;exact qb e
 ·simp only[Sem.runT_eq,A8];split
  ·rename_i e;exact qb e
  ·rename_i e;exact qb e
  ·rename_i e;exact qb e
  ·rename_i e;exact qAu (qb e) (ML _ _ _ _)
  exact qAd _
 exact qAd _
theorem ar3 p main g w b:w.drawn<=(GW (stepG p main g w b)).drawn:=by
 unfold stepG;dsimp only;split;·exact azh _ _ _ _
 ·exact avK p main b (asq p b JB (Te p) (asS p)) _ _ _ _
 exact aqG _ _ _ _ _ _
theorem acD p rest gs i g cases blocking
  shape w m' (h:(communicate p rest gs i g cases blocking shape w).1=.next m'):w.drawn<=m'.world.drawn:=by
 have a:∀b,waitingAt rest cases w=some b->b.drawn=w.drawn:=λw1 e=>by
  unfold waitingAt at e
  grind
 unfold communicate at h;dsimp only at h;split at h;·cases h
 split at h
 ·split at h
  ·split at h
   ·rename_i e;cases h;exact qBk (a _ e).symm
   cases h
  cases h;exact qAd _
 split at h;·cases h
 rename_i e;refine qAu (qb e) ?_;simp only[Rw];clear e
 repeat' first
  |(cases h;done)
  |(cases h;exact qAd _)
  |(rename_i e;cases h;exact qb e)
  |split at h
theorem ahE p gs rest w m'
  (h:look p gs rest w=.next m'):w.drawn<=m'.world.drawn:=by
 unfold look at h;dsimp only at h;split at h
 ·split at h
  ·cases h
  split at h;·cases h
  split at h;·rename_i e;cases h;exact qb e
  ·cases h
  cases h
 cases h
theorem am6 m op v m' (h:timerOp m op=.ok (v,m')):m'.world.drawn=m.world.drawn:=by
 have j:∀(w:World) (c:Nat),(drain w c).2.drawn=w.drawn:=λw c=>by unfold drain;split<;>rfl
 have l:∀(m:Machine) (k:Nat) (t:Timer) (a b:Nat),(retime m k t a b).2.world.drawn=m.world.drawn:=λm k t a b=>by
  unfold retime
  grind
 have n:∀(i:Machine) (d:Addr) (f:Nat->Timer->Value×Machine),(∀k t,(f k t).2.world.drawn=i.world.drawn)->∀v g,timerOp.named m d f=.ok (v,g)->g.world.drawn=i.world.drawn:=λm0 d f o v g e=>by
  unfold timerOp.named at e
  grind
 have p:∀(d:Addr) (g:Machine),timerOp.opened m d=some g->g.world.drawn=m.world.drawn:=λvar g e=>by
  unfold timerOp.opened at e
  grind
 cases op with
 |new t=>
  simp only[timerOp]at h
  repeat' first
   |(cases h;done)
   |(cases h;rfl)
   |split at h
 |stop d=>
  simp only[timerOp]at h
  grind
 |reset d a b=>
  simp only[timerOp]at h
  grind
 |deadline x r q a=>cases h;rfl
theorem Uc fr m w g w' es (h:endThrow fr m w=.go g w' es):w'=w:=by cases h;rfl
theorem ar7 p m m' i b (h:(runT p m i b).1=.next m'):m.world.drawn<=m'.world.drawn:=by
 simp only[runT]at h
 revert h
 generalize m.gs.swapAt! _ _=g;have a:=ar3 p (i==0) g.1 m.world b;generalize stepG p _ g.1 m.world b=s at *;intro h;refine qAu a ?_;cases s<;>simp only[GW]at *
 case ended=>cases h
 case comm=>exact acD _ _ _ _ _ _ _ _ _ _ h
 case go=>cases h;exact qAd _
 case spawn=>cases h;exact qAd _
 case count=>grind
 case alone=>cases h;exact qAd _
 case collect=>exact ahE _ _ _ _ _ h
 case watch=>cases h;exact qAd _
 case newcoro=>cases h;exact qAd _
 case coroswitch=>
  split at h;·grind
  ·split at h
   ·rename_i e;cases h;rw[Uc _ _ _ _ _ _ e];exact qAd _
   cases h
  cases h
 case timer=>
  split at h;·rename_i e;cases h;exact qBk (am6 _ _ _ _ e).symm
  ·split at h
   ·rename_i e;cases h;rw[Uc _ _ _ _ _ _ e];exact qAd _
   cases h
  ·cases h
  cases h
theorem ar6 p m m' k (h:serve p m k=.next m'):m'.world.drawn=m.world.drawn:=by
 unfold serve at h
 grind
def MW(n:Nat):Move->Prop| .goroutine m _=>n<=m.world.drawn| .machine (.next m) _=>n<=m.world.drawn| .machine (.ended _ _) _=>True
theorem MW.mono{a b}(h:a<=b){x}(c:MW b x):MW a x:=by
 cases x with|goroutine m i=>exact qAu h c|machine s o=>
  cases s with|next m=>exact qAu h c|ended=>trivial
theorem Xe p (r:List Nat)(m:Machine):MW m.world.drawn (match(choose (.sched r.length)).run p m.world with
   | .halt _ w=>.machine (.ended (.stuck "sched" "") w)| .ok k world=>
    if r.length<=1 then .goroutine {m with world} (r.getD k 0)else
    match(choose (.extern "sched.slice" 65536)).run p world with
    | .halt _ w=>.machine (.ended (.stuck "sched.slice" "") w)| .ok n world=>.goroutine {m with world,rest:={m.rest with slice:=if n=0 then none else some (r.getD k 0,n)}} (r.getD k 0)):=by
 split;·trivial
 rename_i e;have e:=qb e;split;·exact e
 split;·trivial
 rename_i a;exact qAu e (qb a)
theorem Sv p m:MW m.world.drawn (askOn p m):=by
 unfold askOn;dsimp only;split;·trivial
 rename_i k w e;have e:m.world.drawn<=w.drawn:=qb e;split;·generalize h:serve p _ _=s;cases s with|next b=>show m.world.drawn<=b.world.drawn;rw[ar6 _ _ _ _ h];exact e|ended=>trivial
 split
 ·split
  ·exact e
  split;·exact e
  split<;>trivial
 split;·exact MW.mono e (Xe p _ {m with world:=w})
 split;·trivial
 ·rename_i a;exact MW.mono (qAu e (qb a)) (Xe p _ {m with world:=_})
 ·rename_i a;exact qAu e (qb a)
 rename_i a;exact MW.mono (qAu e (qb a)) (Xe p _ (Machine.advanceTo {m with world:=_} _))
theorem aio p m:MW m.world.drawn (ask p m):=by
 unfold ask;split
 ·split
  ·trivial
  ·rename_i e;have e:=qb e;split
   ·rename_i h;exact MW.mono (qAu e (ahE _ _ _ _ _ h)) (Sv p _)
   rename_i h;generalize look p m.gs m.rest _=s at h;cases s with|next a=>exact(h a rfl).elim|ended=>trivial
  rename_i e;have e:=qb e;exact MW.mono e (Sv p {m with world:=_})
 exact Sv p m
theorem avx p m:MW m.world.drawn (move p m):=by
 unfold move;split
 ·split
  ·exact qAd _
  trivial
 split
 ·split
  ·exact qAd _
  exact aio p {m with rest:=_}
 exact aio p m
theorem avi p m m' (h:step p m=.next m'):m.world.drawn<=m'.world.drawn:=by
 unfold Go.step Go.stepT at h;have a:=avx p m;generalize move p m=x at h a;cases x with|goroutine b i=>exact qAu a (ar7 p b m' i true h)|machine s o=>subst h;exact a
theorem Wo p:∀n m a,runN p n m=.next a->m.world.drawn<=a.world.drawn
 |0,m,a,h=>by cases h;exact qAd _|n+1,m,a,h=>by
  simp only[runN]at h;cases s:step p m with|next b=>rw[s]at h;exact qAu (avi p m b s) (Wo p n b a h)|ended o w=>rw[s]at h;cases h
theorem Calls.drawn{P}{f}{args}{w}{R}(h:Calls P f args w R)(d:∀w',¬R .outgrown w'):Calls P f args w λe w'=>R e w'/\w.drawn<=w'.drawn:=by
 intro s;obtain⟨e,w',g,r,a,i,l⟩:=h s;refine⟨e,w',g,⟨r,?_⟩,a,i,l⟩;cases e with|outgrown=>exact(d w' r).elim|returned v=>obtain⟨n,b⟩:=a;exact Wo P n _ _ b|panicked c=>obtain⟨n,b⟩:=a;exact Wo P n _ _ b
end
section
open Go Go.Sort
theorem apq{w w':World}(hs:w.heap.size<=w'.heap.size)(k:∀b:Nat,b<w.heap.size->w'.heap[b]? =w.heap[b]?)(g:w.drawn<=w'.drawn)(a:w'.os=w.os)(c:w'.tape=w.tape)(p:w'.output=w.output):∃q s,w'=grow (w.drewN q) s:=by
 refine⟨w'.drawn - w.drawn,w'.heap.extract w.heap.size w'.heap.size,?_⟩;cases w with|mk e f r j u=>
 cases w' with|mk h t d s o=>
  simp only at hs k g a c p;subst a c p;have l:h=e++h.extract e.size h.size:=by grind
  have i:d=r+(d - r):=by omega
  show World.mk h t d s o=World.mk (e++h.extract e.size h.size) t (r+(d - r)) s o
  grind
theorem at_nil l:at? [] l=none:=by cases l<;>rfl
theorem abB(ak:bJ)(w:World)(hpv:∀b o,ak b o→b<w.heap.size):Entry [] ak [] w where
 klen:=rfl
 resv:=fun l _=>at_nil l
 obj:=fun l b h=>by rw[at_nil]at h;cases h
 apart:=fun l l' b h=>by rw[at_nil]at h;cases h
 bound:=fun l b h=>by rw[at_nil]at h;cases h
 pvlt:=hpv
 pvdis:=fun b o l _ h=>by rw[at_nil]at h;cases h
theorem afG ak H b o:aD ak [] H b o↔ak b o:=by
 constructor
 ·rintro(h|⟨l,h,_⟩)
  ·exact h
  rw[at_nil]at h;cases h
 exact .inl
theorem quiet_of{P f args res}(g:cK P f args [] res []) w ak (c:∀b o,ak b o->b<w.heap.size)(vs:List Value)(i:vs.length=args.length)
  (r:∀j,j<args.length->Rel w [] ak (args.getD j .unk) (vs.getD j undef)) V (k:∀w' κ pv v,Rel w' κ pv res v->v=V):
  Calls P f vs.toArray w λe w'=>e=.returned V/\∃q s,w'=grow (w.drewN q) s:=by
 have p:aD ak [] []=ak:=by funext b o;exact propext (afG ak [] b o)
 have h:=Calls.drawn (g [] ak w vs (abB ak w c) i (by rw[p];exact r)) (by rintro w' ⟨v,d,h,_⟩;cases h);refine h.mono ?_;rintro e w' ⟨⟨v,d,rfl,a,m⟩,n⟩;refine⟨by rw[k _ _ _ _ m],apq a.kS.size (λb t=>a.kept b t λl h=>by rw[at_nil]at h;cases h) n a.os a.tape a.output⟩
end
end Abs
end Go.Proofs.YtneeginmfjageaaGreat
namespace Go.Proofs
open Go.Shelf
def Tryz.adI:Go.Shelf.Ren:=⟨λ|7=>195|10=>277|n=>n,λ|23=>107|26=>9|3=>4|28=>196|0=>0|27=>195|33=>133|4=>4|n=>n,λ|n=>n⟩
set_option maxRecDepth 100000 in
theorem Tryz.aC7:Go.Proofs.SlLaysZ.n7 Tryz.prog Tryz.adI:={
 mixed:=by kernel_rfl
 f7:=⟨Tryz.f195.name,by decide,Tryz.func195.trans (congrArg some (by kernel_rfl))⟩
 f10:=⟨Tryz.f277.name,by decide,Tryz.func277.trans (congrArg some (by kernel_rfl))⟩
 t0:=Tryz.underlying0
 a0:=Tryz.isAgg0
 z0:=Tryz.sizeOf0
 v0:=Tryz.zeroValue0
 t4:=Tryz.underlying4
 a4:=Tryz.isAgg4
 z4:=Tryz.sizeOf4
 v4:=Tryz.zeroValue4
 t23:=Tryz.underlying107
 a23:=Tryz.isAgg107
 z23:=Tryz.sizeOf107
 v23:=Tryz.zeroValue107
 t26:=Tryz.underlying9
 a26:=Tryz.isAgg9
 z26:=Tryz.sizeOf9
 v26:=Tryz.zeroValue9
 t27:=Tryz.underlying195
 a27:=Tryz.isAgg195
 z27:=Tryz.sizeOf195
 v27:=Tryz.zeroValue195
 t28:=Tryz.underlying196
 a28:=Tryz.isAgg196
 z28:=Tryz.sizeOf196
 v28:=Tryz.zeroValue196
 t33:=Tryz.underlying133
 a33:=Tryz.isAgg133
 z33:=Tryz.sizeOf133
 v33:=Tryz.zeroValue133}
def Tryz.Xp:Go.Shelf.Ren:=⟨λ|6=>194|8=>275|9=>276|11=>321|13=>200|12=>322|23=>286|24=>287|14=>339|15=>340|16=>341|17=>342|18=>343|19=>344|20=>345|21=>346|22=>347|25=>349|26=>324|27=>325|28=>350|29=>351|30=>352|31=>353|n=>n,λ|26=>9|28=>196|24=>61|0=>0|3=>3|37=>202|48=>243|50=>245|4=>4|40=>237|39=>236|45=>205|5=>5|9=>9|51=>257|55=>261|57=>273|58=>171|33=>133|n=>n,λ|n=>n⟩
set_option maxRecDepth 100000 in
theorem Tryz.ayS:Go.Proofs.SlLaysZ.n6 Tryz.prog Tryz.Xp:={
 mixed:=by kernel_rfl
 f6:=⟨Tryz.f194.name,by decide,Tryz.func194.trans (congrArg some (by kernel_rfl))⟩
 f8:=⟨Tryz.f275.name,by decide,Tryz.func275.trans (congrArg some (by kernel_rfl))⟩
 f11:=⟨Tryz.f321.name,by decide,Tryz.func321.trans (congrArg some (by kernel_rfl))⟩
 t0:=Tryz.underlying0
 a0:=Tryz.isAgg0
 z0:=Tryz.sizeOf0
 v0:=Tryz.zeroValue0
 t24:=Tryz.underlying61
 a24:=Tryz.isAgg61
 z24:=Tryz.sizeOf61
 v24:=Tryz.zeroValue61
 t26:=Tryz.underlying9
 a26:=Tryz.isAgg9
 z26:=Tryz.sizeOf9
 v26:=Tryz.zeroValue9
 t28:=Tryz.underlying196
 a28:=Tryz.isAgg196
 z28:=Tryz.sizeOf196
 v28:=Tryz.zeroValue196
 i26:=by kernel_rfl}
def Tryz.ash:Go.Shelf.Ren:=⟨λ|6=>276|8=>200|9=>322|19=>286|20=>287|21=>339|22=>340|23=>341|24=>342|25=>343|26=>344|27=>345|28=>346|29=>347|36=>349|31=>324|32=>325|37=>350|38=>351|39=>352|41=>353|n=>n,λ|27=>61|29=>9|3=>3|32=>202|26=>61|0=>0|44=>243|46=>245|4=>4|36=>237|35=>236|41=>205|5=>5|9=>9|53=>257|57=>261|63=>273|64=>171|n=>n,λ|n=>n⟩
set_option maxRecDepth 100000 in
theorem Tryz.atA:Go.Proofs.SlLaysM.n6 Tryz.prog Tryz.ash:={
 mixed:=by kernel_rfl
 f6:=⟨Tryz.f276.name,by decide,Tryz.func276.trans (congrArg some (by kernel_rfl))⟩
 f8:=Tryz.func200.trans (congrArg some (by kernel_rfl))
 f9:=⟨Tryz.f322.name,by decide,Tryz.func322.trans (congrArg some (by kernel_rfl))⟩
 f19:=Tryz.func286.trans (congrArg some (by kernel_rfl))
 f20:=Tryz.func287.trans (congrArg some (by kernel_rfl))
 f21:=⟨Tryz.f339.name,by decide,Tryz.func339.trans (congrArg some (by kernel_rfl))⟩
 f22:=⟨Tryz.f340.name,by decide,Tryz.func340.trans (congrArg some (by kernel_rfl))⟩
 f23:=⟨Tryz.f341.name,by decide,Tryz.func341.trans (congrArg some (by kernel_rfl))⟩
 f24:=⟨Tryz.f342.name,by decide,Tryz.func342.trans (congrArg some (by kernel_rfl))⟩
 f25:=⟨Tryz.f343.name,by decide,Tryz.func343.trans (congrArg some (by kernel_rfl))⟩
 f26:=⟨Tryz.f344.name,by decide,Tryz.func344.trans (congrArg some (by kernel_rfl))⟩
 f27:=⟨Tryz.f345.name,by decide,Tryz.func345.trans (congrArg some (by kernel_rfl))⟩
 f28:=⟨Tryz.f346.name,by decide,Tryz.func346.trans (congrArg some (by kernel_rfl))⟩
 f29:=⟨Tryz.f347.name,by decide,Tryz.func347.trans (congrArg some (by kernel_rfl))⟩
 f31:=Tryz.func324.trans (congrArg some (by kernel_rfl))
 f32:=Tryz.func325.trans (congrArg some (by kernel_rfl))
 f36:=⟨Tryz.f349.name,by decide,Tryz.func349.trans (congrArg some (by kernel_rfl))⟩
 f37:=⟨Tryz.f350.name,by decide,Tryz.func350.trans (congrArg some (by kernel_rfl))⟩
 f38:=⟨Tryz.f351.name,by decide,Tryz.func351.trans (congrArg some (by kernel_rfl))⟩
 f39:=⟨Tryz.f352.name,by decide,Tryz.func352.trans (congrArg some (by kernel_rfl))⟩
 f41:=⟨Tryz.f353.name,by decide,Tryz.func353.trans (congrArg some (by kernel_rfl))⟩
 t0:=Tryz.underlying0
 a0:=Tryz.isAgg0
 z0:=Tryz.sizeOf0
 v0:=Tryz.zeroValue0
 t3:=Tryz.underlying3
 a3:=Tryz.isAgg3
 z3:=Tryz.sizeOf3
 v3:=Tryz.zeroValue3
 t4:=Tryz.underlying4
 a4:=Tryz.isAgg4
 z4:=Tryz.sizeOf4
 v4:=Tryz.zeroValue4
 t5:=Tryz.underlying5
 a5:=Tryz.isAgg5
 z5:=Tryz.sizeOf5
 v5:=Tryz.zeroValue5
 t9:=Tryz.underlying9
 a9:=Tryz.isAgg9
 z9:=Tryz.sizeOf9
 v9:=Tryz.zeroValue9
 t26:=Tryz.underlying61
 a26:=Tryz.isAgg61
 z26:=Tryz.sizeOf61
 v26:=Tryz.zeroValue61
 t27:=Tryz.underlying61
 a27:=Tryz.isAgg61
 z27:=Tryz.sizeOf61
 v27:=Tryz.zeroValue61
 t29:=Tryz.underlying9
 a29:=Tryz.isAgg9
 z29:=Tryz.sizeOf9
 v29:=Tryz.zeroValue9
 t32:=Tryz.underlying202
 a32:=Tryz.isAgg202
 z32:=Tryz.sizeOf202
 v32:=Tryz.zeroValue202
 t35:=Tryz.underlying236
 a35:=Tryz.isAgg236
 z35:=Tryz.sizeOf236
 v35:=Tryz.zeroValue236
 t36:=Tryz.underlying237
 a36:=Tryz.isAgg237
 z36:=Tryz.sizeOf237
 v36:=Tryz.zeroValue237
 t41:=Tryz.underlying205
 a41:=Tryz.isAgg205
 z41:=Tryz.sizeOf205
 v41:=Tryz.zeroValue205
 t44:=Tryz.underlying243
 a44:=Tryz.isAgg243
 z44:=Tryz.sizeOf243
 v44:=Tryz.zeroValue243
 t46:=Tryz.underlying245
 a46:=Tryz.isAgg245
 z46:=Tryz.sizeOf245
 v46:=Tryz.zeroValue245
 t53:=Tryz.underlying257
 a53:=Tryz.isAgg257
 z53:=Tryz.sizeOf257
 v53:=Tryz.zeroValue257
 t57:=Tryz.underlying261
 a57:=Tryz.isAgg261
 z57:=Tryz.sizeOf261
 v57:=Tryz.zeroValue261
 t63:=Tryz.underlying273
 a63:=Tryz.isAgg273
 z63:=Tryz.sizeOf273
 v63:=Tryz.zeroValue273
 t64:=Tryz.underlying171
 a64:=Tryz.isAgg171
 z64:=Tryz.sizeOf171
 v64:=Tryz.zeroValue171}
end Go.Proofs
namespace Go.Proofs.YtneeginmfjageaaGreat
namespace Abs
section
open Go Go.Proofs Go.RowKit Go.Maps Go.Sort Go.Shelf
theorem aAU m:AnyZ.SortsIn Tryz.prog Tryz.Xp Fence.wide m:=
 ⟨λblk o c a W b h s=>callsIn_wide.2 (AnyM.slices_Sort_string Tryz.atA blk o c a W b h s),
  λp c W=>callsIn_wide.2 (AnyM.slices_Sort_string_none Tryz.atA p c W)⟩
set_option maxHeartbeats 1000000 in
theorem av8 b bm nn D0 (R:Value->Option (DataW Unit×List MemPlace)) w (a:bm<w.heap.size)(d:w.cell? ⟨bm,0,none⟩=some (.map (some b)))(o:w.ownsMap Tryz.prog 9 R b nn D0)(m:Maps.size D0<=maxLen)(h:Maps.size D0*16<=140737488355328):
  CallsIn Fence.wide 5 Tryz.prog 194 #[.func (.func 277) #[] #[.pointer (some ⟨bm,0,none⟩)]] w λe c=>∃(v:Value) (ss:List (List UInt8)),e=.returned v/\ss.Perm (strKeys D0)/\
   c.ownsRow w.heap.size 9 1 v ss.length ((ss.mergeSort λx y=>decide (x<=y)).map encStr)/\(v=.slice none 0 0↔ss=[])/\Below w.heap.size w c:=by
 have s:SeqGives Fence.wide 2 Tryz.prog 277 #[.pointer (some ⟨bm,0,none⟩)] encStr (λss=>ss.Perm (strKeys D0)) (Maps.size D0) w:=
  AnyZ.keys_gives (ρ:=Tryz.adI) {Tryz.aC7 with} Fence.wide _ trivial rfl (by omega) bm b nn D0 _ a d o
 exact AnyZ.sorted_in Tryz.ayS Fence.wide 5 trivial trivial trivial trivial rfl (by omega) (aAU _) (enters_of Tryz.func276 (by kernel_rfl) rfl) 277 #[.pointer (some ⟨bm,0,none⟩)] trivial (enters_of Tryz.func277 (by kernel_rfl) rfl) _ _ m h _ s
theorem Leave.same{κ ak H w w'}(f:Entry κ ak H w)(a:Go.RowKit.Below w.heap.size w w'):Leave κ κ ak H H w w':=by
 have d:∀b o u,w.cell? ⟨b,o,none⟩=some u->w'.cell? ⟨b,o,none⟩=some u:=λb o u i=>by have t:=lt_of_cell i;simp only[World.cell?,a.block b t]at i|-;exact i
 have v:Evo (aD ak κ H) w w':=⟨a.size,λb o u _ i=>d b o u i,λb c e z x=>⟨c,by rw[a.block b (qBi.1 x).1];exact x,rfl⟩⟩;exact⟨f.klen,qAd _,dw.refl _,f.resv,λl b g j=>(f.obj l b g j).mono (a.block b (f.bound l b g)) v (dw.refl _) (λ_ _ h _=>h),
  λl b g j=>.inr ⟨l,g,j⟩,f.apart,λl b g=>qAD (f.bound l b g) a.size,λb t _=>a.block b t,v,λ_ _ h _=>h,a.os,a.tape,a.output⟩
theorem ath{κ ak H w}(e:Entry κ ak H w){b o}(h:aD ak κ H b o):b<w.heap.size:=by
 rcases h with h|⟨l,a,_⟩
 ·exact e.pvlt b o h
 exact e.bound l b a
theorem aql H p m es (hp:obj? H p=.box [.mapr m])(hm:obj? H m=.mp es)(G:es.length*16<=140737488355328):
  cK Tryz.prog 194 [.func 277 [.ptr p 0]] H (.slice (((es.map (·.1)).mergeSort leS).map encS) .shared) H:=by
 intro o ak w vs n I hr;have h0:=hr 0 (by simp)
 match vs,I with
 |[v],_=>
 simp only[List.getD,qAF,qAv]at h0;obtain⟨cs,rfl,Z,hcr⟩:=h0.Jr
 match cs,Z with
 |[cp],_=>
 have J:=hcr 0 (by simp);simp only[List.getD,qAF,qAv]at J;obtain⟨W,rfl,K⟩:=J.qm;have ho:=n.obj p W K (by rw[hp];trivial);rw[hp]at ho;obtain⟨c,el,g1,g2,g3⟩:=ho;have F:=g3 0 (by simp);simp only[List.getD,qAF,qAv]at F;have l:w.cell? ⟨W,0,none⟩=some (c.getD 0 undef):=by
  have:0<c.size:=by rw[g2];simp
  simp[World.cell?,g1,Array.getD,this]
 generalize c.getD 0 undef=cv at F l;cases F with|@mapr _ b hb=>
 have M:=n.obj m b hb (by rw[hm];trivial);rw[hm]at M;obtain⟨s,q,k1,k2,X,k4⟩:=M;have k31:es.length<=140737488355328:=by have:=X.1;rwa[qAg]at this
 have hk9:Tryz.prog.underlying 9=some .string:=by kernel_rfl
 let R:Value->Option (DataW Unit×List MemPlace):=λ_=>some (.lit (.bool true),[])
 have t:∀j,(k:j<s.size)->keyOf Tryz.prog 9 s[j].key=some (.string (es.getD j ([],.unk)).1):=λj k=>by
  have h5:=(k4 j (by omega)).1;have e:s.getD j default=s[j]:=by simp[Array.getD,k]
  rw[e]at h5;rw[h5,Go.WideMaps.keyOf_string_mk hk9];have N:(es.getD j ([],.unk)).1∈es.map (·.1):=by
   have hj':j<es.length:=by omega
   rw[List.getD,qAc hj',qAv];exact qAA.2 ⟨_,qAN _,rfl⟩
  have:=X.2.2 _ N;simpa[ByteArray.size,maxLen]using this
 have O:∀j,(k:j<s.size)->WideElems.rd Tryz.prog 9 R s[j]=some (.string (es.getD j ([],.unk)).1,.lit (.bool true)):=λj k=>by simp only[WideElems.rd,t j k,qAa,R,qAx]
 have P:w.ownsMap Tryz.prog 9 R b es.length (.map ((s.toList.map (WideElems.rg Tryz.prog 9 R)).foldr DataW.insert [])):=by
  refine⟨s,q,k1,⟨?_,X.2.1,λx Y=>?_⟩,by omega,rfl⟩;·simp only[maxLen];omega
  obtain⟨j,k,rfl⟩:=qBz Y;simp only[qCg]at k;exact⟨_,by simpa using O j k⟩
 have f:(strKeys (.map ((s.toList.map (WideElems.rg Tryz.prog 9 R)).foldr DataW.insert []))).Perm (es.map (·.1)):=by
  simp only[strKeys];refine((WideShapes.sorted_perm _).map _).trans ?_;have e:(s.toList.map (WideElems.rg Tryz.prog 9 R)).map (λp=>strOf p.1)=es.map (·.1):=by
   apply qBV;·simp[k2]
   intro j J F;simp only[qAg,qCg]at J F;simp only[qDy,qDN];rw[WideElems.rg_of (O j J)];simp[strOf,List.getD,qAc F]
  rw[e]
 have Q:Maps.size (H:=Unit) (.map ((s.toList.map (WideElems.rg Tryz.prog 9 R)).foldr DataW.insert []))=es.length:=by rw[size_eq,DataW.length_sorted];simp[k2]
 have u:=callsIn_wide.1 (av8 b W es.length _ R w (n.bound p W K) l P (by rw[Q];simp only[maxLen];omega) (by rw[Q];exact G));refine u.mono ?_;rintro e w' ⟨v,ss,rfl,S,r,_,T⟩;refine⟨v,o,rfl,Leave.same n T,?_⟩;have z:ss.mergeSort (λx y=>decide (x<=y))=(es.map (·.1)).mergeSort leS:=mergeSort_of_perm (S.trans f);rw[z]at r;generalize hL:(es.map (·.1)).mergeSort leS=L at r;have hLl:L.length=es.length:=by rw[<-hL];simp
 have U:ss.length=es.length:=by have:=(S.trans f).length_eq;simpa using this
 have hLk:∀x∈L,x.length<=9223372036854775807:=λx Y=>X.2.2 x (by rw[<-hL]at Y;exact(List.mergeSort_perm _ _).mem_iff.1 Y);obtain⟨hrl,r⟩:=r;rcases r with⟨rfl,hz⟩|⟨g,A,B,rfl,hbase,hg,hcap,_,hcur,C⟩
 ·have:L=[]:=qAI.1 (by omega);subst this;have:=Rel.slice (w:=w') (κ:=o) (pv:=aD ak o H) (es:=[]) (tag:=.shared) (a:=none) (cap:=0) 0 0 1 (λ_ _=>undef) (λi h=>by cases h) (λh=>(h rfl).elim) (qAd _) (by simp) (λi j h=>by cases h) (λi j h=>by cases h) (λi j h=>by cases h) trivial;simpa using this
 have hgi:∀i,i<L.length->w'.cell? ⟨g,0+(i*1+0),none⟩=some (encStr (L.getD i [])):=λi d=>by
  have V:i<B.size:=by omega
  have e1:B[i]=encStr (L.getD i []):=by
   have:(B.toList.take (ss.length*1))[i]? =some (encStr (L.getD i [])):=by rw[C,qAH,qAc d];simp[List.getD,qAc d]
   rw[qBt,if_pos (by omega)]at this;simpa[V]using this
  have e0:0+(i*1+0)=i:=by omega
  rw[e0];simp[World.cell?,hg,V,e1]
 have D:(L.map encS).length=es.length:=by simp[hLl]
 have:=Rel.slice (w:=w') (κ:=o) (pv:=aD ak o H) (es:=L.map encS) (tag:=.shared) (a:=some ⟨g,0,none⟩) (cap:=A) g 0 1 (λi _=>encStr (L.getD i []))
  (λi d=>by simp only[qAg]at d;simp[List.getD,qAc d,encS]) (λ_=>rfl) (by omega) (by omega)
  (λi j _ _ hpv=>by have:=ath n hpv;omega)
  (λi j d k=>by
   simp only[qAg]at d;have E:j=0:=by omega
   subst E;exact hgi i d)
  (λi j d k=>by
   simp only[qAg]at d;have E:j=0:=by omega
   subst E;have e:((L.map encS).getD i []).getD 0 .unk=.str (L.getD i []):=by simp[List.getD,qAc d,encS]
   rw[e];refine .str (hLk _ ?_);rw[List.getD,qAc d];exact qAN _) trivial
 rw[D]at this;rw[U];exact this
end
section
open Go
theorem AW.agQ{P:Program}{m id x y d:Nat}{o c:Oper}{Q:QT}{t:List AV}{h:List AObj}{T T2 e:TypeId}{es:List (List AV)}{tag:Tag}
  (h1:o.op=.move (.tmp x)) (g1:o.guard=none) (d1:o.dst=some y) (h2:c.op=.binOp .eql T (.tmp y) (.const (.slice none 0 0)) T2) (g2:c.guard=none) (d2:c.dst=some d)
  (hT:P.underlying T=some (.slice e)) (hx:t.getD x .unk=.slice es tag) (hy:y<t.length)
  (hq:∀b:Bool,(b=true->es=[])->Q .normal ((t.set y (.slice es tag)).set d (.bool b)) h):AW P m (.region id #[o,c] false) Q t h:=by
 intro C κ a w hk hs;refine wp_region_lit (l:=[o,c]) ?_;simp only[wpList];have w1:∀f,Region.wanted o f=true:=λf=>by simp[Region.wanted,g1]
 have w2:∀f,Region.wanted c f=true:=λf=>by simp[Region.wanted,g2]
 simp only[w1,if_true];refine .inl ?_;have p:xX P o ⟨t,h⟩ ((⟨t,h⟩:ASt).wr (au o.dst (.slice es tag))):=apw (by rw[h1];simp only[aB,bC];rw[hx]);refine p C κ a w hs _ _ λκ' a' i s=>?_;simp only[w2,if_true];refine .inl ?_;rw[d1]at s;have j:=s.ev (.tmp y);have e1:bC ((⟨t,h⟩:ASt).wr (au (some y) (.slice es tag))).tmps (.tmp y)=.slice es tag:=by show(t.set y (.slice es tag)).getD y .unk=_;exact kK hy
 rw[e1]at j;cases v:a'.eval (.tmp y)with
 |slice g n k=>
  rw[v]at j;have r:(execOp a'.eval c).run P i=.ok (.value (.bool g.isNone)) i:=by
   obtain⟨dst,op,ty,pos,after,guard⟩:=c;simp only at h2;subst h2;have hc:a'.eval (.const (.slice none 0 0))=.slice none 0 0:=rfl;have heq:(Op.equal T (.slice g n k) (.slice none 0 0)).run P i=.ok g.isNone i:=by
    have hh:∀dd,(Op.equalIn (dd+1) T (.slice g n k) (.slice none 0 0)).run P i=.ok g.isNone i:=λdd=>by cases g<;>simp[Op.equalIn,run_underlying hT]
    exact hh 9999
   simp[execOp,v,hc,binOp,eqGuard,heq]
  unfold Oper.wp;rw[r];refine⟨(((⟨t,h⟩:ASt).wr (au (some y) (.slice es tag))).setSlot d (.bool g.isNone)),κ',hq _ λhb=>?_,?_⟩;·cases j with|slice b off sz u q1 q2 q3 q3' q4 q5 q6 q7=>apply qAp;intro hne;rw[q2 hne]at hb;cases hb
  rw[d2];exact s.put (.bool _)
 |_=>rw[v]at j;cases j
end
section
open Go Go.Proofs
theorem aFD:kE Tryz.prog 70=true:=by kernel_rfl
theorem aCO:kE Tryz.prog 194=true:=by kernel_rfl
set_option maxRecDepth 100000 in
theorem Ye n p0 r (h:slices_Clone_int n p0=some r):cK Tryz.prog 70 [.slice (List.map encI p0) .shared] [] (.slice (List.map encI r) .shared) []:=by
 unfold slices_Clone_int at h;refine Ib true Tryz.func70 rfl (by rw[Tryz.ntmps70];exact qAe rfl) λQ q t j=>?_
 conv at j=>whnf
 subst j;refine AW.uE λK1 a=>?_;refine AW.region lH zC 0 ?_
 conv=>whnf
 refine a _ _ ?_;refine AW.uE λK2 c=>?_;refine AW.uE λK3 i=>?_;refine AW.agQ (x:=0) (y:=3) (d:=4) (T:=26) (e:=3) (es:=List.map encI p0) (tag:=.shared) rfl rfl rfl rfl rfl rfl (by kernel_rfl) rfl (qAe rfl) λb m=>?_
 conv=>whnf
 refine i _ _ ?_;refine AW.cond (b:=b) rfl (λe1=>?_) (λe1=>?_)
 ·have p:p0=[]:=by simpa using m e1
  subst p;have o:r=[]:=by unfold app at h;simpa using h.symm
  subst o;refine AW.uE λK4 k=>?_;refine AW.region lH zC 0 ?_
  conv=>whnf
  refine k _ _ ?_;refine AW.ret ?_
  conv=>whnf
  refine q _ _ _ (atn lH (λg=>by simp only[ren,dL,eF,pK,axJ]) ?_)
  conv=>whnf
  try rfl
 refine AW.skip ?_
 conv=>whnf
 refine c _ _ ?_;refine AW.uE λK4 k=>?_;refine AW.region lH zC 2 ?_
 conv=>whnf
 refine⟨List.map encI ([]:List Int),rfl,?_⟩
 conv=>whnf
 refine aja (l:=([]:List Int)) (ys:=p0) (f:=encI) h aH0 rfl rfl rfl ?_
 conv=>whnf
 refine k _ _ ?_;refine AW.ret ?_
 conv=>whnf
 refine q _ _ _ (atn lH (λg=>by simp only[ren,dL,eF,pK,axJ]) ?_)
 conv=>whnf
 try rfl
theorem Qh n p0 r (h:nH n p0=some r):
  cK Tryz.prog 194 [.func 277 [.ptr 0 0]] [.box [.mapr 1],.mp (List.map (λp=>(p.1,(λ(x:Bool)=>.bool x) p.2)) p0)] (.slice (List.map encS r) .shared) [.box [.mapr 1],.mp (List.map (λp=>(p.1,(λ(x:Bool)=>.bool x) p.2)) p0)]:=by
 unfold nH at h;split at h;·rename_i l;have e:=Option.some.inj h;subst e;have:=aql [.box [.mapr 1],.mp (List.map (λp=>(p.1,(λ(x:Bool)=>.bool x) p.2)) p0)] 0 1 _ rfl rfl (by simpa using l);simpa[qBl,qCA]using this
 cases h
theorem aFJ:kE Tryz.prog 47=true:=by kernel_rfl
set_option maxHeartbeats 1000000 in
set_option maxRecDepth 100000 in
theorem anA a b w:Calls Tryz.prog 97 #[.string a,.string b] w λe c=>e=.returned (.int .i64 (Lib.compareBytes a.data.toList b.data.toList))/\c=w:=by
 go_enter Tryz.func97,Tryz.ntmps97
 go_wp2
 rw[run_callFunc_extern Tryz.func173 (by kernel_rfl) (by kernel_rfl) (by kernel_rfl) (e:=Extern.BytealgCompare.compare) (by kernel_rfl),Lib.run_compareString];simp only[Result.andThen];rw[Oper.upon_value]
 go_wp2
 go_ret
 exact⟨rfl,rfl⟩
set_option maxHeartbeats 1000000 in
set_option maxRecDepth 100000 in
theorem anV a b w:Calls Tryz.prog 47 #[.string a,.string b] w λe c=>e=.returned (.int .i64 (Lib.compareBytes a.data.toList b.data.toList))/\c=w:=by
 go_enter Tryz.func47,Tryz.ntmps47
 go_wp2_with (go_at_call 97;refine(anA _ _ _).mono ?_;rintro e c ⟨rfl,rfl⟩)
 go_ret
 exact⟨rfl,rfl⟩
theorem ak2:∀a b:Str,Lib.compareBytes a b= -1∨Lib.compareBytes a b=0∨Lib.compareBytes a b=1
 |[],[]=>by simp[Lib.compareBytes]|[],_::_=>by simp[Lib.compareBytes]|_::_,[]=>by simp[Lib.compareBytes]|a::x,b::y=>by
  have:=ak2 x y;simp only[Lib.compareBytes]
  grind
theorem Zn n p0 p1 r (h:strings_Compare n p0 p1=some r):cK Tryz.prog 47 [.str p0,.str p1] [] (.int .i64 r) []:=by
 have e:=Option.some.inj h;subst e;intro f k w s a l b
 match s,l with|[v,u],_=>have c:=b 0 (by simp);have d:=b 1 (by simp);simp only[List.getD,qAF,qBs,qAv]at c d;obtain⟨g,_⟩:=c.zZ;obtain⟨i,_⟩:=d.zZ;subst g i;refine(anV _ _ w).mono ?_;rintro e j ⟨rfl,rfl⟩;refine⟨_,f,rfl,Leave.same a (qCV _ _),?_⟩;refine .int ?_;rcases ak2 p0 p1 with h|h|h<;>simp[h,qc,IntKind.min,IntKind.max,IntKind.signed,IntKind.bits]
end
section
open Go
theorem aAu{P o s}{t k e sz by_:Nat}(f:o.op=.buildSlice t 0 #[])(g:lV P t=some (e,sz,by_))(l:bS (obj? s.heap k)=true):xX P o s (s.wr (.obj k (.arr sz [])::au o.dst (.psl k sz 0))):=
 nT λC r a w n=>by
  obtain⟨u,i,v,b,z,y,p,q⟩:=mZ g;obtain⟨d,m⟩:=ajE n l (es:=[]) (c:=#[]) (e:=e) (cap:=0) (sz:=sz) (λi b=>by simp at b) (by simp) (by simp) (by simp) (λi j b=>by simp at b) o.dst;refine⟨_,d,_,?_,m⟩;have h:(sizeOf e).run P w=.ok sz w:=by simp[sizeOf,typeInfo,b,z]
  simp only[execOp,f,Instr.buildSlice,Sem.run_bind,run_underlying u,Result.andThen_ok,h];rw[Sem.run_ite,if_neg (by omega)];simp[newRow,Instr.fill,show Array.range 0=#[]from rfl]
def au2(τ:Nat->TI)(k:Nat)(d:Option Tmp)(ρ:Operand->AV)(σ:Nat->AObj)(K:List Nat->List Wr->Prop):Op->Prop
 | .buildSlice t l p=>match l,p.toList with|0,[]=>gY (τ t).elem λe=>iE (bS (σ k)) (K [k] (.obj k (.arr e.2.1 [])::au d (.psl k e.2.1 0))) False|_,_=>VP τ k d ρ σ K (.buildSlice t l p)
 |o=>VP τ k d ρ σ K o
theorem ayp{τ k d ρ σ K op}(h:au2 τ k d ρ σ K op):VP τ k d ρ σ K op∨∃t e,op=.buildSlice t 0 #[]/\(τ t).elem=some e/\bS (σ k)=true/\K [k] (.obj k (.arr e.2.1 [])::au d (.psl k e.2.1 0)):=by
 unfold au2 at h;split at h
 ·rename_i t l p;split at h
  ·rename_i g;obtain⟨e,b,c⟩:=bP h;rcases bE c with⟨f,a⟩|⟨_,a⟩
   ·refine .inr ⟨t,e,?_,b,f,a⟩
    simp_all
   grind
  grind
 grind
def PS(P:Program)(τ:Nat->TI)(ops:List Oper):List Oper->Nat->List Eff->List AV->List AObj->(List Eff->List AV->List AObj->Prop)->Prop
 |[],_,e,t,h,K=>K e.reverse t h|o::l,k,e,t,h,K=>grd ops t
   λt=>match lJ o.op with|some (f,r)=>ZP (λfid c=>afo t r.toList λvs=>fL (vs++c) λvs=>ACallU P fid vs o.dst t h k λk' b w=>yt w t h λt' a=>PS P τ ops l k' (⟨aY ops.toArray o,b,w⟩::e) t' a K) (bC t f)|none=>au2 τ k o.dst (bC t) (obj? h) (λrd w=>yt w t h λt' a=>frN (jg o.op) (PS P τ ops l k (⟨aY ops.toArray o,rd,w⟩::e) t' a K) (PS P τ ops l (k+1) (⟨aY ops.toArray o,rd,w⟩::e) t' a K)) o.op
   (λt=>yt (au o.dst (.tup [])) t h λt' a=>PS P τ ops l k (⟨aY ops.toArray o,[],au o.dst (.tup [])⟩::e) t' a K) o.guard
theorem avh{P}{ops}:∀l k es t h K,PS P (TI.of P) ops l k es t h K->∃a d,ATr P ops.toArray l a ⟨t,h⟩ d/\K (es.reverse++a) d.tmps d.heap:=by
 intro l
 induction l with|nil=>intro k es t h K v;exact⟨[],⟨t,h⟩,.nil _,by simpa[PS]using v⟩|cons o l E=>
  intro k es t h K v;have f:∀(e:Eff) (i:Nat),Gr P ops.toArray o ⟨t,h⟩ e->(yt e.ws t h λt' n=>PS P (TI.of P) ops l i (e::es) t' n K)->∃a d,ATr P ops.toArray (o::l) a ⟨t,h⟩ d/\K (es.reverse++a) d.tmps d.heap:=λe i x B=>by rw[ahN]at B;obtain⟨a,d,j,g⟩:=E i (e::es) _ _ K B;exact⟨e::a,d,.cons x j,by simpa using g⟩
  rcases RP v with⟨q,b⟩|⟨q,F⟩
  ·cases c:lJ o.op with
   |none=>
    rw[c]at b;obtain⟨r,w,j,g⟩:∃r w,Gr P ops.toArray o ⟨t,h⟩ ⟨aY ops.toArray o,r,w⟩/\yt w t h λt' n=>frN (jg o.op) (PS P (TI.of P) ops l k (⟨aY ops.toArray o,r,w⟩::es) t' n K) (PS P (TI.of P) ops l (k+1) (⟨aY ops.toArray o,r,w⟩::es) t' n K):=by
     rcases ayp b with b|⟨G,e,y,x,I,b⟩
     ·obtain⟨r,w,j,g⟩:=aah b;exact⟨r,w,JV (s:=⟨t,h⟩) q j,g⟩
     refine⟨_,_,λs' u=>.inl ⟨by rw[uM u.rs];exact q,?_⟩,b⟩;refine aAu y (e:=e.1) (by_:=e.2.2) x ?_;rw[u.ro k (by simp)];exact I
    have g:∃i,yt w t h λt' n=>PS P (TI.of P) ops l i (⟨aY ops.toArray o,r,w⟩::es) t' n K:=by
     cases C:jg o.op with
     |zero=>simp only[C]at g;exact⟨_,g⟩|succ m=>simp only[C]at g;exact⟨_,g⟩
    obtain⟨i,g⟩:=g;exact f ⟨aY ops.toArray o,r,w⟩ i j g
   |some p=>
    rw[c]at b;simp only at b;unfold ZP at b;split at b;·rename_i J D j;simp only[abV,vK]at b;replace b:=b.out;obtain⟨z,R,S,A,H,L,T,g,M,N,O,Q⟩:=b;obtain⟨G,y⟩:=vP c;exact f _ _ (EP (s:=⟨t,h⟩) q y j z g M N O) Q
    grind
  exact f _ k (Fh (s:=⟨t,h⟩) q) F
theorem AW.aCR{P}{τ:Nat->TI}{m id}{l}{d}{Q}{t}{h}(a:τ=TI.of P)(e:P.follows .mixedOrders=true) r
  (b:rep r h λh'=>aaH h 0 λk=>PS P τ l.toList l.toList k [] t h' λes t h=>iE d (lF l.toList es=true/\Q .normal t h) (Q .normal t h)):AW P m (.region id l d) Q t h:=by
 subst a;unfold rep at b;simp only[vK,TU]at b;obtain⟨es,n,c,f⟩:=avh _ _ _ _ _ _ b;have o:l=l.toList.toArray:=by simp
 rcases bE f with⟨rfl,i,j⟩|⟨rfl,g⟩
 ·exact AW.of (cZ.drawn (s:=⟨t,h⟩) r e c i j)
 exact AW.of (cZ.region (s:=⟨t,h⟩) r c.steps g)
section
variable {xs ys:List AV}
end
section
variable {h:List AObj}{L:List (Option Nat)}{xs ys:List AV}{ls:List (Option Nat)}{os:List AObj}{l:Nat}
theorem VWs.u{y}(v:VWs h L xs ys):VWs h L (.unk::xs) (y::ys):=.cons (.unk _) v
theorem OWs.w{o}(e:bS o=false)(v:OWs h L ls os):OWs h L (none::ls) (o::os):=.new e v
end
theorem wk{m t t' h a} L (b:VWs h L t' t)(o:OWs h L L a)(l:okL m h.length L a=true):Le m t h t' a:=.of L (.mk' l b o)
end
end Abs
end Go.Proofs.YtneeginmfjageaaGreat

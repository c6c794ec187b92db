/-
  The count of draws never falls. Conditions: none; about the model's own steps, over any program.
-/
import GoSem.Step
import Derived.Laws.World
import Derived.Control
import Derived.Lone
import Derived.Calls
import Derived.Sort.Grow
import Derived.Deep.Draws
import Derived.Tactics
import Derived.Tactics2
import Derived.WalkKit
import Derived.Laws.Externs
import Derived.KernelRfl
import Derived.Test.YtkopaeklihhdlaaGreatCTaboxeeee45
set_option linter.unusedSimpArgs false
set_option linter.unusedVariables false
namespace Go.Proofs.YtkopaeklihhdlaaGreat
namespace Abs
open Go
def Rw {α : Type} : Result α → World
 | .ok _ w => w
 | .halt _ w => w
theorem abv {α : Type} : ∀ (x : Ask α) (w : World), w.drawn ≤ (w.ask x).2.drawn := by
 intro x
 induction x with
 | done a => intro w; exact Nat.le_refl _
 | ask what range k ih =>
  intro w
  unfold World.ask
  dsimp only
  split
  ·exact ih _ w
  ·exact Nat.le_trans (Nat.le_succ w.drawn) (ih ((Question.extern what range).cut (w.tape w.drawn (Question.extern what range))) { w with drawn := w.drawn + 1 })
theorem Qt (w : World) (c : Sys) : w.drawn ≤ (w.sys c).2.drawn := by
 have h := abv (Kernel.perform c w.os) w
 unfold World.sys
 split
 ·exact Nat.le_refl _
 ·rename_i e
  rw [e] at h
  exact h
theorem Vm (w : World) (a : Addr) (n : Nat) : (w.freeze a n).drawn = w.drawn := by
 unfold World.freeze
 repeat' first | rfl | split
theorem PX {P : Program} {w w' : World} {a : Addr} {v : Value} {b : Bool} {l : List Addr} (h : w.farStore P a v b = .ok (w', l)) : w'.drawn = w.drawn := by
 unfold World.farStore at h
 split at h
 ·split at h
  ·rename_i r e
   cases h
   simp only [World.viewStore, bind, Except.bind, pure, Except.pure, throw, throwThe, MonadExceptOf.throw] at e
   repeat' first
    | (cases e; done)
    | (cases e; rfl)
    | split at e
  ·cases h
 ·cases h
theorem zF {α : Type} (P : Program) : ∀ (s : Sem α) (w : World), w.drawn ≤ (Rw (s.run P w)).drawn := by
 intro s
 induction s with
 | pure a => intro w; exact Nat.le_refl _
 | halt h => intro w; exact Nat.le_refl _
 | choose q k ih =>
  intro w
  unfold Sem.run
  split
  ·exact ih _ w
  ·exact Nat.le_trans (Nat.le_succ w.drawn) (ih (q.cut (w.tape w.drawn q)) { w with drawn := w.drawn + 1 })
 | sys c k ih => intro w; unfold Sem.run; exact Nat.le_trans (Qt w c) (ih _ _)
 | program k ih => intro w; unfold Sem.run; exact ih _ w
 | mark m k ih => intro w; unfold Sem.run; exact ih w
 | new o k ih => intro w; unfold Sem.run; exact ih w.heap.size { w with heap := w.heap.push o }
 | shape r k ih => intro w; unfold Sem.run; exact ih _ w
 | frozen a k ih => intro w; unfold Sem.run; exact ih _ w
 | freeze a n k ih => intro w; unfold Sem.run; have := ih (w.freeze a n); rw [Vm] at this; exact this
 | getObj r k ih =>
  intro w; unfold Sem.run
  split
  ·exact Nat.le_refl _
  ·exact ih _ w
  ·exact Nat.le_refl _
 | setObj r o k ih =>
  intro w; unfold Sem.run
  split
  ·exact Nat.le_refl _
  ·exact ih { w with heap := w.heap.setIfInBounds r o }
  ·exact Nat.le_refl _
 | load m a k ih =>
  intro w; unfold Sem.run
  split
  ·exact ih _ w
  ·split
   ·exact ih _ w
   ·exact Nat.le_refl _
 | store m a v k ih =>
  intro w
  have key : w.drawn ≤ (Rw (match w.cell? a with
   | some _ => if w.frozen? a then .halt (.unsupported (.unsafePointer "a write to bytes that a string shares")) w else k.run P (w.setCell a v)
   | none => match w.farStore P a v (m == .atomic) with
    | .ok (w, _) => k.run P w
    | .error h => .halt h w)).drawn := by
   split
   ·split
    ·exact Nat.le_refl _
    ·exact ih (w.setCell a v)
   ·split
    ·rename_i w' _ e
     have := ih w'
     rw [PX e] at this
     exact this
    ·exact Nat.le_refl _
  cases v <;> first | exact Nat.le_refl _ | exact key
def GW : GStep → World
 | .go _ w _ => w
 | .comm _ _ _ _ w _ => w
 | .spawn _ _ w _ => w
 | .count _ w _ => w
 | .timer _ _ w _ => w
 | .alone _ _ w _ => w
 | .newcoro _ _ _ w _ => w
 | .coroswitch _ _ _ w _ => w
 | .collect _ w _ => w
 | .watch _ w _ => w
 | .ended _ w _ => w
theorem rM (es : Array Event) (s : GStep) : GW (s.after es) = GW s := by cases s <;> rfl
theorem yU (p : Program) (main : Bool) (fr : Frame) (cs : List Frame) (d : Option Dying) (v : Value) (w : World) : w.drawn ≤ (GW (doReturn p main fr cs d v w)).drawn := by
 unfold doReturn
 repeat' first
  | exact Nat.le_refl _
  | (rw [rM])
  | split
theorem Ti (w : World) (fd : Nat) (b : ByteArray) (o : Outcome) : w.drawn ≤ (GW (endWith w fd b o)).drawn := by
 have h := Qt w (.write fd b)
 unfold endWith
 dsimp only
 generalize w.sys (.write fd b) = x at h
 obtain ⟨r, w'⟩ := x
 cases r <;> dsimp only <;> (repeat' first | exact h | split)
theorem Xw (p : Program) (listen : Bool) (hT : ∀ (fr : Frame) (m : String) (w : World), w.drawn ≤ (GW (endThrow fr m w)).drawn) (hF : ∀ (fr : Frame) (cs : List Frame) (d : Option Dying) (m : String) (w : World), w.drawn ≤ (GW (endFatal p fr cs d m w)).drawn)
  (hE : ∀ (fr : Frame) (cs : List Frame) (d : Option Dying) (g : Nat) (w : World), w.drawn ≤ (GW (early p fr cs d g w)).drawn) (fr : Frame) (cs : List Frame) (d : Option Dying) (s : Sem Next) (w : World) : w.drawn ≤ (GW (stepG.apply p listen fr cs d s w)).drawn := by
 have hr := zF p s w
 have hrt : (if listen then s.runT p w #[] else (s.run p w, #[])).1 = s.run p w := by
  split
  ·rw [Sem.runT_eq]
  ·rfl
 unfold stepG.apply
 dsimp only
 generalize (if listen then s.runT p w #[] else (s.run p w, #[])) = x at hrt
 obtain ⟨r, es⟩ := x
 simp only at hrt
 subst hrt
 dsimp only
 rw [rM]
 refine Nat.le_trans hr ?_
 cases s.run p w with
 | ok a w' =>
  simp only [Rw]
  cases a <;> (try dsimp only) <;> (repeat' first | exact Nat.le_refl _ | exact hT _ _ _ | (exfalso; simp_all; done) | split)
 | halt h w' =>
  simp only [Rw]
  cases h <;> (try dsimp only) <;> (repeat' first | exact Nat.le_refl _ | exact hT _ _ _ | exact hF _ _ _ _ _ | exact hE _ _ _ _ _ | (exfalso; simp_all; done) | (rename_i e; cases e; first | exact Nat.le_refl _ | exact hE _ _ _ _ _) | split)
theorem aam {α : Type} (p : Program) (s : Sem α) (w : World) (es : Array Event) : w.drawn ≤ (Rw (s.runT p w es).1).drawn := by
 rw [Sem.runT_eq]; exact zF p s w
theorem aal (p : Program) (main listen : Bool) (hA : ∀ (fr : Frame) (cs : List Frame) (d : Option Dying) (s : Sem Next) (w : World), w.drawn ≤ (GW (stepG.apply p listen fr cs d s w)).drawn) (fr : Frame) (cs : List Frame) (d : Option Dying) (w : World) : w.drawn ≤ (GW (stepG.oper p listen fr cs d w)).drawn := by
 unfold stepG.oper
 repeat' first | exact Nat.le_refl _ | exact hA _ _ _ _ _ | split
theorem aa3 (p : Program) (main listen : Bool) (hA : ∀ (fr : Frame) (cs : List Frame) (d : Option Dying) (s : Sem Next) (w : World), w.drawn ≤ (GW (stepG.apply p listen fr cs d s w)).drawn) (fr : Frame) (cs : List Frame) (d : Option Dying) (w : World) : w.drawn ≤ (GW (stepG.exec p main listen fr cs d w)).drawn := by
 have hO := aal p main listen hA
 have hL : ∀ (j : Option Code) (l : Nat), w.drawn ≤ (GW (GStep.after (seen p fr.fn ((Instr.endRound l j).runT p w #[]).2) (match ((Instr.endRound l j).runT p w #[]).1 with
   | .ok v w => doReturn p main fr cs d v w
   | .halt _ w => .ended (.stuck "range over a function: no such loop" (fr.pos p)) w))).drawn := fun j l => by
  rw [rM]
  refine Nat.le_trans (aam p (Instr.endRound l j) w #[]) ?_
  split
  ·rename_i e; rw [e]; exact yU _ _ _ _ _ _ _
  ·rename_i e; rw [e]; exact Nat.le_refl _
 have hR : ∀ {α : Type} {x : Sem α} {r : Result α}, x.run p w = r → w.drawn ≤ (Rw r).drawn := fun e => by rw [← e]; exact zF p _ w
 have hLv : ∀ (j : Option Code) (g : GStep), w.drawn ≤ (GW g).drawn → w.drawn ≤ (GW (match fr.roundOf with
   | none => g
   | some l => GStep.after (seen p fr.fn ((Instr.endRound l j).runT p w #[]).2) (match ((Instr.endRound l j).runT p w #[]).1 with
    | .ok v w => doReturn p main fr cs d v w
    | .halt _ w => .ended (.stuck "range over a function: no such loop" (fr.pos p)) w))).drawn := fun j g hg => by
  split
  ·exact hg
  ·exact hL _ _
 unfold stepG.exec
 dsimp only
 split
 all_goals (try exact Nat.le_refl _)
 all_goals (try exact hA _ _ _ _ _)
 ·exact hLv none _ (Nat.le_refl _)
 ·exact hLv (some .ret) _ (Nat.le_refl _)
 ·split <;> exact Nat.le_refl _
 ·rename_i id k _
  cases exitTo id k with
  | none => exact hLv (some (.exit id)) _ (Nat.le_refl _)
  | some x => exact Nat.le_refl _
 ·rename_i l k _
  cases gotoIn l k with
  | none => exact hLv (some (.goto l)) _ (Nat.le_refl _)
  | some x => exact Nat.le_refl _
 ·simp only [Sem.runT_eq, rM]
  split
  ·rename_i e; exact Nat.le_trans (hR e) (hA _ _ _ _ _)
  ·rename_i e; exact hR e
 ·simp only [Sem.runT_eq, rM]
  split
  ·rename_i e; exact hR e
  ·rename_i e; exact hR e
  ·rename_i e; exact hR e
 ·rename_i row args k _
  cases Extern.next row with
  | none => exact Nat.le_refl _
  | some e => exact hA _ _ _ _ _
 ·split
  ·exact Nat.le_refl _
  ·split
   ·rename_i e; exact hR e
   ·rename_i e; exact hR e
 ·split
  ·exact hO _ _ _ _
  ·exact Nat.le_refl _
theorem yP (fr : Frame) (m : String) (w : World) : w.drawn ≤ (GW (endThrow fr m w)).drawn := Nat.le_refl _
theorem mI {α : Type} {p : Program} {w : World} {x : Sem α} {r : Result α} (e : x.run p w = r) : w.drawn ≤ (Rw r).drawn := by rw [← e]; exact zF p _ w
theorem D8 (p : Program) (fr : Frame) (cs : List Frame) (d : Option Dying) (m : String) (w : World) : w.drawn ≤ (GW (endFatal p fr cs d m w)).drawn := by
 unfold endFatal
 dsimp only
 split
 ·rename_i e; exact mI e
 ·rename_i e; exact mI e
 ·rename_i e; exact mI e
theorem Ag (p : Program) (fr : Frame) (v : Value) (w : World) : w.drawn ≤ (GW (endPrinting p fr v w)).drawn := by
 unfold endPrinting
 dsimp only
 split
 ·exact yP _ _ _
 ·exact Nat.le_refl _
theorem agS {c : Prop} [Decidable c] {n : Nat} {a b : GStep} (h1 : n ≤ (GW a).drawn) (h2 : n ≤ (GW b).drawn) : n ≤ (GW (if c then a else b)).drawn := by
 split
 ·exact h1
 ·exact h2
theorem Ir (p : Program) (fr : Frame) (cs : List Frame) (dy : Option Dying) (d : Deferred) (w : World) : w.drawn ≤ (GW (callDeferred p fr cs dy d w)).drawn := by
 unfold callDeferred
 refine agS (Nat.le_refl _) ?_
 ·have hr := zF p (invoke d.target d.args) w
  simp only [Sem.runT_eq, rM]
  refine Nat.le_trans hr ?_
  cases (invoke d.target d.args).run p w with
  | ok a w' =>
   simp only [Rw]
   cases a
   case coroswitch c b => cases b <;> exact Nat.le_refl _
   case alone b v => cases b <;> exact Nat.le_refl _
   case recover =>
    dsimp only
    split <;> exact Nat.le_refl _
   all_goals exact Nat.le_refl _
  | halt h w' =>
   simp only [Rw]
   cases h <;> (try dsimp only) <;> (repeat' first | exact Nat.le_refl _ | exact D8 _ _ _ _ _ _ | exact yP _ _ _ | split)
theorem VO (p : Program) (main : Bool) (fr : Frame) (cs : List Frame) (dy : Option Dying) (w : World) : w.drawn ≤ (GW (unwind p main fr cs dy w)).drawn := by
 unfold unwind
 split
 ·simp only [Sem.runT_eq, rM]
  split
  ·rename_i e; exact mI e
  ·rename_i e; exact mI e
 ·exact Ir _ _ _ _ _ _
 ·split
  ·exact Nat.le_refl _
  ·split
   ·exact Nat.le_refl _
   ·split
    ·exact Nat.le_refl _
    ·split
     ·split
      ·exact Nat.le_refl _
      ·split
       ·rename_i e; exact mI e
       ·rename_i e; exact mI e
       ·rename_i e; exact mI e
     ·split
      ·exact Ag _ _ _ _
      ·exact Nat.le_refl _
  ·split
   ·exact yU _ _ _ _ _ _ _
   ·simp only [Sem.runT_eq, rM]
    split
    ·rename_i e; exact Nat.le_trans (mI e) (yU _ _ _ _ _ _ _)
    ·rename_i e; exact mI e
    ·rename_i e; exact mI e
theorem Yr (p : Program) (fr : Frame) (cs : List Frame) (dy : Option Dying) (g : Nat) (w : World) : w.drawn ≤ (GW (early p fr cs dy g w)).drawn := by
 have hn : ∀ w : World, w.drawn ≤ (GW (match w.heap[g]? with
  | some (.pending c elem) => .go { frame := fr, callers := cs, status := .running, dying := dy } { w with heap := w.heap.setIfInBounds g (.cells c elem) }
  | _ => .ended (.stuck "early: the variable does not wait" (fr.pos p)) w)).drawn := fun w => by
  split <;> exact Nat.le_refl _
 unfold early
 dsimp only
 repeat' first
  | exact Nat.le_refl _
  | exact hn _
  | (rename_i e; exact mI e)
  | (rename_i e; exact Nat.le_trans (mI e) (hn _))
  | split
theorem SQ (p : Program) (fr : Frame) (d : Dying) (f : Fatal) (w : World) : w.drawn ≤ (GW (writeOn p fr d f w)).drawn := by
 unfold writeOn
 dsimp only
 split
 ·exact Nat.le_refl _
 ·simp only [Sem.runT_eq]
  split
  ·rename_i e; exact mI (Prod.mk.inj e).1
  ·rename_i e; exact mI (Prod.mk.inj e).1
  ·rename_i e; exact mI (Prod.mk.inj e).1
  ·rename_i e; exact mI (Prod.mk.inj e).1
theorem acM (p : Program) (fr : Frame) (d : Dying) (w : World) : w.drawn ≤ (GW (die p fr d w)).drawn := by
 unfold die
 split
 ·exact SQ _ _ _ _ _
 ·split
  ·split
   ·exact Nat.le_refl _
   ·exact Ti _ _ _ _
  ·dsimp only
   split
   ·exact Nat.le_refl _
   ·split
    ·rename_i e; exact mI e
    ·rename_i e; exact mI e
   ·simp only [Sem.runT_eq, rM]
    split
    ·rename_i e; exact mI e
    ·rename_i e; exact mI e
    ·rename_i e; exact mI e
    ·rename_i e; exact Nat.le_trans (mI e) (Ag _ _ _ _)
    ·exact Nat.le_refl _
   ·exact Nat.le_refl _
theorem YQ (p : Program) (main : Bool) (g : Goroutine) (w : World) (b : Bool) : w.drawn ≤ (GW (stepG p main g w b)).drawn := by
 unfold stepG
 dsimp only
 split
 ·exact acM _ _ _ _
 ·exact aa3 p main b (Xw p b yP (D8 p) (Yr p)) _ _ _ _
 ·exact VO _ _ _ _ _ _
theorem JW (p : Program) (rest : Rest) (gs : Array Goroutine) (i : Nat) (g : Goroutine) (cases : Array CommCase) (blocking : Bool)
  (shape : CommShape) (w : World) (m' : Machine) (h : (communicate p rest gs i g cases blocking shape w).1 = .next m') : w.drawn ≤ m'.world.drawn := by
 have hwa : ∀ w1, waitingAt rest cases w = some w1 → w1.drawn = w.drawn := fun w1 e => by
  unfold waitingAt at e
  split at e
  ·split at e
   ·cases e; rfl
   ·cases e
  ·cases e; rfl
 unfold communicate at h
 dsimp only at h
 split at h
 ·cases h
 ·split at h
  ·split at h
   ·split at h
    ·rename_i e; cases h; exact Nat.le_of_eq (hwa _ e).symm
    ·cases h
   ·cases h; exact Nat.le_refl _
  ·split at h
   ·cases h
   ·rename_i e
    refine Nat.le_trans (mI e) ?_
    simp only [Rw]
    clear e
    repeat' first
     | (cases h; done)
     | (cases h; exact Nat.le_refl _)
     | (rename_i e; cases h; exact mI e)
     | split at h
theorem Ow (p : Program) (gs : Array Goroutine) (rest : Rest) (w : World) (m' : Machine)
  (h : look p gs rest w = .next m') : w.drawn ≤ m'.world.drawn := by
 unfold look at h
 dsimp only at h
 split at h
 ·split at h
  ·cases h
  ·split at h
   ·cases h
   ·split at h
    ·rename_i e; cases h; exact mI e
    ·cases h
    ·cases h
 ·cases h
theorem RP (m : Machine) (op : TimerOp) (v : Value) (m' : Machine) (h : timerOp m op = .ok (v, m')) : m'.world.drawn = m.world.drawn := by
 have hd : ∀ (w : World) (c : Nat), (drain w c).2.drawn = w.drawn := fun w c => by unfold drain; split <;> rfl
 have hr : ∀ (m : Machine) (k : Nat) (t : Timer) (a b : Nat), (retime m k t a b).2.world.drawn = m.world.drawn := fun m k t a b => by
  unfold retime
  cases t.chan with
  | none => rfl
  | some c => exact hd m.world c
 have hn : ∀ (m0 : Machine) (var : Addr) (f : Nat → Timer → Value × Machine), (∀ k t, (f k t).2.world.drawn = m0.world.drawn) → ∀ v m1, timerOp.named m var f = .ok (v, m1) → m1.world.drawn = m0.world.drawn := fun m0 var f hf v m1 e => by
  unfold timerOp.named at e
  split at e
  ·rename_i k _
   have := hf k (m.rest.timers.getD k default)
   generalize f k (m.rest.timers.getD k default) = x at *
   cases e; exact this
  ·cases e
 have ho : ∀ (var : Addr) (m1 : Machine), timerOp.opened m var = some m1 → m1.world.drawn = m.world.drawn := fun var m1 e => by
  unfold timerOp.opened at e
  split at e
  ·split at e
   ·cases e; rfl
   ·cases e
  ·cases e; rfl
 cases op with
 | new t =>
  simp only [timerOp] at h
  repeat' first
   | (cases h; done)
   | (cases h; rfl)
   | split at h
 | stop var =>
  simp only [timerOp] at h
  exact hn m var _ (fun k t => hr m k t _ _) v m' h
 | reset var a b =>
  simp only [timerOp] at h
  split at h
  ·rename_i m1 e
   rw [← ho var m1 e]
   exact hn m1 var _ (fun k t => hr m1 k t _ _) v m' h
  ·cases h
 | deadline ctx r wr a =>
  simp only [timerOp] at h
  cases h; rfl
theorem Er (fr : Frame) (m : String) (w : World) (g : Goroutine) (w' : World) (es : Array Event) (h : endThrow fr m w = .go g w' es) : w' = w := by
 unfold endThrow dieOf at h
 cases h; rfl
theorem YA (p : Program) (m m' : Machine) (i : Nat) (b : Bool) (h : (runT p m i b).1 = .next m') : m.world.drawn ≤ m'.world.drawn := by
 simp only [runT] at h
 revert h
 generalize m.gs.swapAt! _ _ = gg
 have hs := YQ p (i == 0) gg.1 m.world b
 generalize stepG p _ gg.1 m.world b = s at *
 intro h
 refine Nat.le_trans hs ?_
 cases s <;> simp only [GW] at *
 case ended => cases h
 case comm => exact JW _ _ _ _ _ _ _ _ _ _ h
 case go => cases h; exact Nat.le_refl _
 case spawn => cases h; exact Nat.le_refl _
 case count =>
  split at h
  ·cases h
  ·cases h; exact Nat.le_refl _
 case alone => cases h; exact Nat.le_refl _
 case collect => exact Ow _ _ _ _ _ h
 case watch => cases h; exact Nat.le_refl _
 case newcoro => cases h; exact Nat.le_refl _
 case coroswitch =>
  split at h
  ·cases h; exact Nat.le_refl _
  ·split at h
   ·rename_i e; cases h; rw [Er _ _ _ _ _ _ e]; exact Nat.le_refl _
   ·cases h
  ·cases h
 case timer =>
  split at h
  ·rename_i e; cases h; exact Nat.le_of_eq (RP _ _ _ _ e).symm
  ·split at h
   ·rename_i e; cases h; rw [Er _ _ _ _ _ _ e]; exact Nat.le_refl _
   ·cases h
  ·cases h
  ·cases h
theorem Yz (p : Program) (m m' : Machine) (k : Nat) (h : serve p m k = .next m') : m'.world.drawn = m.world.drawn := by
 unfold serve at h
 dsimp only at h
 repeat' first
  | (cases h; done)
  | (cases h; rfl)
  | split at h
def MW (n : Nat) : Move → Prop
 | .goroutine m _ => n ≤ m.world.drawn
 | .machine (.next m) _ => n ≤ m.world.drawn
 | .machine (.ended _ _) _ => True
theorem MW.mono {a b : Nat} (h : a ≤ b) {x : Move} (hx : MW b x) : MW a x := by
 cases x with
 | goroutine m i => exact Nat.le_trans h hx
 | machine s ops =>
  cases s with
  | next m => exact Nat.le_trans h hx
  | ended => trivial
theorem FU (p : Program) (rs : List Nat) (m : Machine) : MW m.world.drawn (match (choose (.sched rs.length)).run p m.world with
   | .halt _ w => .machine (.ended (.stuck "sched" "") w)
   | .ok k world =>
    if rs.length ≤ 1 then .goroutine { m with world } (rs.getD k 0) else
    match (choose (.extern "sched.slice" 65536)).run p world with
    | .halt _ w => .machine (.ended (.stuck "sched.slice" "") w)
    | .ok n world => .goroutine { m with world, rest := { m.rest with slice := if n = 0 then none else some (rs.getD k 0, n) } } (rs.getD k 0)) := by
 split
 ·trivial
 ·rename_i e
  have e := mI e
  split
  ·exact e
  ·split
   ·trivial
   ·rename_i e2; exact Nat.le_trans e (mI e2)
theorem DC (p : Program) (m : Machine) : MW m.world.drawn (askOn p m) := by
 unfold askOn
 dsimp only
 split
 ·trivial
 ·rename_i k w1 e
  have e : m.world.drawn ≤ w1.drawn := mI e
  split
  ·generalize hs : serve p _ _ = s
   cases s with
   | next m' => show m.world.drawn ≤ m'.world.drawn; rw [Yz _ _ _ _ hs]; exact e
   | ended => trivial
  ·split
   ·split
    ·exact e
    ·split
     ·exact e
     ·split <;> trivial
   ·split
    ·exact MW.mono e (FU p _ { m with world := w1 })
    ·split
     ·trivial
     ·rename_i e2; exact MW.mono (Nat.le_trans e (mI e2)) (FU p _ { m with world := _ })
     ·rename_i e2; exact Nat.le_trans e (mI e2)
     ·rename_i e2; exact MW.mono (Nat.le_trans e (mI e2)) (FU p _ (Machine.advanceTo { m with world := _ } _))
theorem MN (p : Program) (m : Machine) : MW m.world.drawn (ask p m) := by
 unfold ask
 split
 ·split
  ·trivial
  ·rename_i e
   have e := mI e
   split
   ·rename_i h; exact MW.mono (Nat.le_trans e (Ow _ _ _ _ _ h)) (DC p _)
   ·rename_i h
    generalize look p m.gs m.rest _ = s at h
    cases s with
    | next m' => exact (h m' rfl).elim
    | ended => trivial
  ·rename_i e
   have e := mI e
   exact MW.mono e (DC p { m with world := _ })
 ·exact DC p m
theorem Z7 (p : Program) (m : Machine) : MW m.world.drawn (move p m) := by
 unfold move
 split
 ·split
  ·exact Nat.le_refl _
  ·trivial
 ·split
  ·split
   ·exact Nat.le_refl _
   ·exact MN p { m with rest := _ }
  ·exact MN p m
theorem aaB (p : Program) (m m' : Machine) (h : step p m = .next m') : m.world.drawn ≤ m'.world.drawn := by
 unfold Go.step Go.stepT at h
 have hm := Z7 p m
 generalize move p m = x at h hm
 cases x with
 | goroutine m1 i => exact Nat.le_trans hm (YA p m1 m' i true h)
 | machine s ops =>
  simp only at h
  subst h
  exact hm
theorem Fe (p : Program) : ∀ (n : Nat) (m m' : Machine), runN p n m = .next m' → m.world.drawn ≤ m'.world.drawn
 | 0, m, m', h => by cases h; exact Nat.le_refl _
 | n + 1, m, m', h => by
  simp only [runN] at h
  cases hs : step p m with
  | next m1 => rw [hs] at h; exact Nat.le_trans (aaB p m m1 hs) (Fe p n m1 m' h)
  | ended o w => rw [hs] at h; cases h
theorem Calls.drawn {P : Program} {f : FuncId} {args : Array Value} {w : World} {R : Ending → World → Prop} (h : Calls P f args w R) (hR : ∀ w', ¬ R .outgrown w') : Calls P f args w fun e w' => R e w' ∧ w.drawn ≤ w'.drawn := by
 intro cs
 obtain ⟨e, w', fr, hr, hc, hf, hl⟩ := h cs
 refine ⟨e, w', fr, ⟨hr, ?_⟩, hc, hf, hl⟩
 cases e with
 | outgrown => exact (hR w' hr).elim
 | returned v => obtain ⟨n, hn⟩ := hc; exact Fe P n _ _ hn
 | panicked c => obtain ⟨n, hn⟩ := hc; exact Fe P n _ _ hn
end Abs
end Go.Proofs.YtkopaeklihhdlaaGreat
namespace Go.Proofs.YtkopaeklihhdlaaGreat
namespace Abs
open Go Go.Sort
theorem V4 {w w' : World} (hs : w.heap.size ≤ w'.heap.size) (hk : ∀ b : Nat, b < w.heap.size → w'.heap[b]? = w.heap[b]?) (hd : w.drawn ≤ w'.drawn) (ho : w'.os = w.os) (ht : w'.tape = w.tape) (hp : w'.output = w.output) : ∃ q os', w' = grow (w.drewN q) os' := by
 refine ⟨w'.drawn - w.drawn, w'.heap.extract w.heap.size w'.heap.size, ?_⟩
 cases w with
 | mk heap tape drawn os output =>
 cases w' with
 | mk heap' tape' drawn' os' output' =>
  simp only at hs hk hd ho ht hp
  subst ho ht hp
  have hh : heap' = heap ++ heap'.extract heap.size heap'.size := by
   apply Array.ext_getElem?
   intro k
   rw [Array.getElem?_append]
   by_cases h : k < heap.size
   ·rw [if_pos h, hk k h]
   ·rw [if_neg h, Array.getElem?_extract]
    by_cases h2 : k < heap'.size
    ·rw [if_pos (by omega)]; congr 1; omega
    ·rw [if_neg (by omega)]; simp; omega
  have hdr : drawn' = drawn + (drawn' - drawn) := by omega
  show World.mk heap' tape' drawn' os' output' = World.mk (heap ++ heap'.extract heap.size heap'.size) tape' (drawn + (drawn' - drawn)) os' output'
  rw [← hh, ← hdr]
theorem at_nil (l : Nat) : at? [] l = none := by cases l <;> rfl
theorem HV (aO : bN) (w : World) (hpv : ∀ b o, aO b o → b < w.heap.size) : Entry [] aO [] w where
 klen := rfl
 resv := fun l _ => at_nil l
 obj := fun l b h => by rw [at_nil] at h; cases h
 apart := fun l l' b h => by rw [at_nil] at h; cases h
 bound := fun l b h => by rw [at_nil] at h; cases h
 pvlt := hpv
 pvdis := fun b o l _ h => by rw [at_nil] at h; cases h
theorem Mk (aO : bN) (H : List AObj) (b o : Nat) : aP aO [] H b o ↔ aO b o := by
 constructor
 ·rintro (h | ⟨l, h, _⟩)
  ·exact h
  ·rw [at_nil] at h; cases h
 ·exact .inl
theorem quiet_of {P : Program} {f : Nat} {args : List AV} {res : AV} (hA : aA P f args [] res []) (w : World) (aO : bN) (hpv : ∀ b o, aO b o → b < w.heap.size) (vs : List Value) (hl : vs.length = args.length)
  (hr : ∀ j, j < args.length → Rel w [] aO (args.getD j .unk) (vs.getD j undef)) (V : Value) (hV : ∀ w' κ pv v, Rel w' κ pv res v → v = V) :
  Calls P f vs.toArray w fun e w' => e = .returned V ∧ ∃ q os', w' = grow (w.drewN q) os' := by
 have hpve : aP aO [] [] = aO := by funext b o; exact propext (Mk aO [] b o)
 have h := Calls.drawn (hA [] aO w vs (HV aO w hpv) hl (by rw [hpve]; exact hr)) (by rintro w' ⟨v, κ', h, _⟩; cases h)
 refine h.mono ?_
 rintro e w' ⟨⟨v, κ', rfl, hL, hv⟩, hd⟩
 refine ⟨by rw [hV _ _ _ _ hv], V4 hL.pY.size (fun b hb => hL.kept b hb fun l h => by rw [at_nil] at h; cases h) hd hL.os hL.tape hL.output⟩
end Abs
end Go.Proofs.YtkopaeklihhdlaaGreat
namespace Go.Proofs.YtkopaeklihhdlaaGreat
namespace Abs
open Go
theorem AW.vJ {P : Program} {m id x y d : Nat} {o1 o2 : Oper} {Q : QT} {t : List AV} {h : List AObj} {T T2 e : TypeId} {es : List (List AV)} {tag : Tag}
  (h1 : o1.op = .move (.tmp x)) (g1 : o1.guard = none) (d1 : o1.dst = some y) (h2 : o2.op = .binOp .eql T (.tmp y) (.const (.slice none 0 0)) T2) (g2 : o2.guard = none) (d2 : o2.dst = some d)
  (hT : P.underlying T = some (.slice e)) (hx : t.getD x .unk = .slice es tag) (hy : y < t.length)
  (hq : ∀ b : Bool, (b = true → es = []) → Q .normal ((t.set y (.slice es tag)).set d (.bool b)) h) : AW P m (.region id #[o1, o2] false) Q t h := by
 intro C κ a w hk hs
 refine wp_region_lit (l := [o1, o2]) ?_
 simp only [wpList]
 have w1 : ∀ f, Region.wanted o1 f = true := fun f => by simp [Region.wanted, g1]
 have w2 : ∀ f, Region.wanted o2 f = true := fun f => by simp [Region.wanted, g2]
 simp only [w1, if_true]
 refine .inl ?_
 have hop1 : sP P o1 ⟨t, h⟩ ((⟨t, h⟩ : ASt).wr (aM o1.dst (.slice es tag))) := U2 (by rw [h1]; simp only [aV, cK]; rw [hx])
 refine hop1 C κ a w hs _ _ fun κ' a' w' hs' => ?_
 simp only [w2, if_true]
 refine .inl ?_
 rw [d1] at hs'
 have hv := hs'.ev (.tmp y)
 have e1 : cK ((⟨t, h⟩ : ASt).wr (aM (some y) (.slice es tag))).tmps (.tmp y) = .slice es tag := by
  show (t.set y (.slice es tag)).getD y .unk = _
  exact gY hy
 rw [e1] at hv
 cases hev : a'.eval (.tmp y) with
 | slice ad n cap =>
  rw [hev] at hv
  have hrun : (execOp a'.eval o2).run P w' = .ok (.value (.bool ad.isNone)) w' := by
   obtain ⟨dst, op, ty, pos, after, guard⟩ := o2
   simp only at h2
   subst h2
   have hc : a'.eval (.const (.slice none 0 0)) = .slice none 0 0 := rfl
   have heq : (Op.equal T (.slice ad n cap) (.slice none 0 0)).run P w' = .ok ad.isNone w' := by
    have hh : ∀ dd, (Op.equalIn (dd + 1) T (.slice ad n cap) (.slice none 0 0)).run P w' = .ok ad.isNone w' := fun dd => by cases ad <;> simp [Op.equalIn, run_underlying hT]
    exact hh 9999
   simp [execOp, hev, hc, binOp, eqGuard, heq]
  unfold Oper.wp
  rw [hrun]
  refine ⟨(((⟨t, h⟩ : ASt).wr (aM (some y) (.slice es tag))).setSlot d (.bool ad.isNone)), κ', hq _ fun hb => ?_, ?_⟩
  ·cases hv with
   | slice b off sz u q1 q2 q3 q3' q4 q5 q6 q7 =>
    apply Classical.byContradiction
    intro hne
    rw [q2 hne] at hb
    cases hb
  ·rw [d2]; exact hs'.put (.bool _)
 | _ => rw [hev] at hv; cases hv
end Abs
end Go.Proofs.YtkopaeklihhdlaaGreat
namespace Go.Proofs.YtkopaeklihhdlaaGreat
namespace Abs
open Go Go.Proofs
theorem afk : aY Tryz.prog 110 = true := by kernel_rfl
theorem aeK : aY Tryz.prog 168 = true := by kernel_rfl
theorem aeJ : aY Tryz.prog 160 = true := by kernel_rfl
set_option maxRecDepth 100000 in
theorem Gt (n : Nat) (p0 : List Int) (r : List Int) (h : slices_Clone_int n p0 = some r) : aA Tryz.prog 110 [.slice (List.map encI p0) .shared] [] (.slice (List.map encI r) .shared) [] := by
 unfold slices_Clone_int at h
 refine aC true Tryz.func110 rfl (by rw [Tryz.ntmps110]; exact Nat.le_of_ble_eq_true rfl) fun Q hQ t ht => ?_
 conv at ht => whnf
 subst ht
 refine AW.dP fun K1 hK1 => ?_
 refine AW.region aJ dN 0 ?_
 conv => whnf
 refine hK1 _ _ ?_
 refine AW.dP fun K2 hK2 => ?_
 refine AW.dP fun K3 hK3 => ?_
 refine AW.vJ (x := 0) (y := 3) (d := 4) (T := 26) (e := 3) (es := List.map encI p0) (tag := .shared) rfl rfl rfl rfl rfl rfl (by kernel_rfl) rfl (Nat.le_of_ble_eq_true rfl) fun b hb => ?_
 conv => whnf
 refine hK3 _ _ ?_
 refine AW.cond (b := b) rfl (fun e1 => ?_) (fun e1 => ?_)
 ·have hp : p0 = [] := by simpa using hb e1
  subst hp
  have hr : r = [] := by unfold app at h; simpa using h.symm
  subst hr
  refine AW.dP fun K4 hK4 => ?_
  refine AW.region aJ dN 0 ?_
  conv => whnf
  refine hK4 _ _ ?_
  refine AW.ret ?_
  conv => whnf
  refine hQ _ _ _ (aG aJ (fun g => by simp only [ren, bD, bq, dx, aR]) ?_)
  conv => whnf
  try rfl
 ·refine AW.skip ?_
  conv => whnf
  refine hK2 _ _ ?_
  refine AW.dP fun K4 hK4 => ?_
  refine AW.region aJ dN 2 ?_
  conv => whnf
  refine ⟨List.map encI ([] : List Int), rfl, ?_⟩
  conv => whnf
  refine gq (l := ([] : List Int)) (ys := p0) (f := encI) h agT rfl rfl rfl ?_
  conv => whnf
  refine hK4 _ _ ?_
  refine AW.ret ?_
  conv => whnf
  refine hQ _ _ _ (aG aJ (fun g => by simp only [ren, bD, bq, dx, aR]) ?_)
  conv => whnf
  try rfl
set_option maxRecDepth 100000 in
theorem Df (n : Nat) (p0 : List Str) (r : List Str) (h : slices_Clone_string n p0 = some r) : aA Tryz.prog 168 [.slice (List.map encS p0) .shared] [] (.slice (List.map encS r) .shared) [] := by
 unfold slices_Clone_string at h
 refine aC true Tryz.func168 rfl (by rw [Tryz.ntmps168]; exact Nat.le_of_ble_eq_true rfl) fun Q hQ t ht => ?_
 conv at ht => whnf
 subst ht
 refine AW.dP fun K1 hK1 => ?_
 refine AW.region aJ dN 0 ?_
 conv => whnf
 refine hK1 _ _ ?_
 refine AW.dP fun K2 hK2 => ?_
 refine AW.dP fun K3 hK3 => ?_
 refine AW.vJ (x := 0) (y := 3) (d := 4) (T := 69) (e := 9) (es := List.map encS p0) (tag := .shared) rfl rfl rfl rfl rfl rfl (by kernel_rfl) rfl (Nat.le_of_ble_eq_true rfl) fun b hb => ?_
 conv => whnf
 refine hK3 _ _ ?_
 refine AW.cond (b := b) rfl (fun e1 => ?_) (fun e1 => ?_)
 ·have hp : p0 = [] := by simpa using hb e1
  subst hp
  have hr : r = [] := by unfold app at h; simpa using h.symm
  subst hr
  refine AW.dP fun K4 hK4 => ?_
  refine AW.region aJ dN 0 ?_
  conv => whnf
  refine hK4 _ _ ?_
  refine AW.ret ?_
  conv => whnf
  refine hQ _ _ _ (aG aJ (fun g => by simp only [ren, bD, bq, dx, bE]) ?_)
  conv => whnf
  try rfl
 ·refine AW.skip ?_
  conv => whnf
  refine hK2 _ _ ?_
  refine AW.dP fun K4 hK4 => ?_
  refine AW.region aJ dN 2 ?_
  conv => whnf
  refine ⟨List.map encS ([] : List Str), rfl, ?_⟩
  conv => whnf
  refine gq (l := ([] : List Str)) (ys := p0) (f := encS) h Dj rfl rfl rfl ?_
  conv => whnf
  refine hK4 _ _ ?_
  refine AW.ret ?_
  conv => whnf
  refine hQ _ _ _ (aG aJ (fun g => by simp only [ren, bD, bq, dx, bE]) ?_)
  conv => whnf
  try rfl
theorem aeM : aY Tryz.prog 161 = true := by kernel_rfl
theorem Ce (n : Nat) (p0 : List (Str × Bool)) (r : List Str) (h : nA n p0 = some r) :
  aA Tryz.prog 160 [.func 212 [.ptr 1 0]] [.mp (List.map (fun p => (p.1, (fun (x : Bool) => .bool x) p.2)) p0), .box [.mapr 0]] (.slice (List.map encS r) .shared) [.mp (List.map (fun p => (p.1, (fun (x : Bool) => .bool x) p.2)) p0), .box [.mapr 0]] := by
 unfold nA at h
 split at h
 ·rename_i hl
  have e := Option.some.inj h
  subst e
  have := IG [.mp (List.map (fun p => (p.1, (fun (x : Bool) => .bool x) p.2)) p0), .box [.mapr 0]] 1 0 _ rfl rfl (by simpa using hl)
  simpa [List.map_map, Function.comp_def] using this
 ·cases h
set_option maxRecDepth 100000 in
theorem JJ (n : Nat) (p0 : List (Str × Bool)) (r : Unit) (h : Ql n p0 = some r) : aA Tryz.prog 161 [.mapr 0] [.mp (List.map (fun p => (p.1, (fun (x : Bool) => .bool x) p.2)) p0)] (.func 212 [.ptr 1 0]) [.mp (List.map (fun p => (p.1, (fun (x : Bool) => .bool x) p.2)) p0), .box [.mapr 0]] := by
 refine aC false Tryz.func161 rfl (by rw [Tryz.ntmps161]; exact Nat.le_of_ble_eq_true rfl) fun Q hQ t ht => ?_
 conv at ht => whnf
 subst ht
 refine AW.dP fun K1 hK1 => ?_
 refine AW.region aJ dN 1 ?_
 conv => whnf
 refine hK1 _ _ ?_
 refine AW.dP fun K2 hK2 => ?_
 refine AW.region aJ dN 0 ?_
 conv => whnf
 refine hK2 _ _ ?_
 refine AW.ret ?_
 conv => whnf
 refine hQ _ _ _ (.inl (bH aJ [0, 1] rfl (.cons (congrArg AObj.mp (yS (f := (fun (x : Bool) => .bool x)) (fun g x => rfl) _ _)) (.cons rfl .nil)) ?_))
 conv => whnf
 rfl
theorem agY : aY Tryz.prog 61 = true := by kernel_rfl
set_option maxHeartbeats 1000000 in
set_option maxRecDepth 100000 in
theorem Ta (a b : ByteArray) (w : World) : Calls Tryz.prog 115 #[.string a, .string b] w fun e w' => e = .returned (.int .i64 (Lib.compareBytes a.data.toList b.data.toList)) ∧ w' = w := by
 go_enter Tryz.func115, Tryz.ntmps115
 go_wp2
 rw [run_callFunc_extern Tryz.func172 (by kernel_rfl) (by kernel_rfl) (by kernel_rfl) (e := Extern.BytealgCompare.compare) (by kernel_rfl), Lib.run_compareString]
 simp only [Result.andThen]
 rw [Oper.upon_value]
 go_wp2
 go_ret
 exact ⟨rfl, rfl⟩
set_option maxHeartbeats 1000000 in
set_option maxRecDepth 100000 in
theorem Ul (a b : ByteArray) (w : World) : Calls Tryz.prog 61 #[.string a, .string b] w fun e w' => e = .returned (.int .i64 (Lib.compareBytes a.data.toList b.data.toList)) ∧ w' = w := by
 go_enter Tryz.func61, Tryz.ntmps61
 go_wp2_with (go_at_call 115; refine (Ta _ _ _).mono ?_; rintro e w' ⟨rfl, rfl⟩)
 go_ret
 exact ⟨rfl, rfl⟩
theorem QA : ∀ a b : Str, Lib.compareBytes a b = -1 ∨ Lib.compareBytes a b = 0 ∨ Lib.compareBytes a b = 1
 | [], [] => by simp [Lib.compareBytes]
 | [], _ :: _ => by simp [Lib.compareBytes]
 | _ :: _, [] => by simp [Lib.compareBytes]
 | a :: x, b :: y => by
  have := QA x y
  simp only [Lib.compareBytes]
  split
  ·simp
  ·split
   ·simp
   ·exact this
theorem zD (n : Nat) (p0 : Str) (p1 : Str) (r : Int) (h : strings_Compare n p0 p1 = some r) : aA Tryz.prog 61 [.str p0, .str p1] [] (.int .i64 r) [] := by
 have e := Option.some.inj h
 subst e
 intro κ aO w vs hen hlen hr
 match vs, hlen with
 | [v, u], _ =>
 have h0 := hr 0 (by simp)
 have h1 := hr 1 (by simp)
 simp only [List.getD, List.getElem?_cons_zero, List.getElem?_cons_succ, Option.getD_some] at h0 h1
 obtain ⟨e0, _⟩ := h0.y8
 obtain ⟨e1, _⟩ := h1.y8
 subst e0 e1
 refine (Ul _ _ w).mono ?_
 rintro e w' ⟨rfl, rfl⟩
 refine ⟨_, κ, rfl, Leave.same hen (Go.RowKit.Below.refl _ _), ?_⟩
 refine .int ?_
 rcases QA p0 p1 with h | h | h <;> simp [h, qb, IntKind.min, IntKind.max, IntKind.signed, IntKind.bits]
end Abs
end Go.Proofs.YtkopaeklihhdlaaGreat

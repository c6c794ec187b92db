/-
  The walk of a region on an abstract state, operation by operation, as a proposition that simp reckons. Conditions: none; lemmas over any program. How simp reckons a walk: one equation for each kind of operation. Conditions: none; lemmas over any program. What a walk asks of a type, in one record, and the operations on abstract values by such records ('heapT'): the same as by the program. Conditions: none; lemmas over any program. One operation on an abstract state, as a proposition that reduces to its continuation where all is plain, and to a question where it is not. Conditions: none; lemmas over any program. The step by records is sound. Conditions: none; lemmas over any program. The walk of a body by weak head reduction: states are kept plain, and the walk stops where a question is. Conditions: none; lemmas over any program. A table of type records that is quick to look up; a contract from a walk. Conditions: none; lemmas over any program. The walk piece by piece: what comes after is hidden behind a variable. Conditions: none; lemmas over any program. The judgement of the walk ('AW': the code from an abstract state comes to an exit at which Q holds), what a state's values are known to be, and the weakening of states: forgetting, renumbering, freezing. Conditions: none; lemmas over any program. The weakening of abstract states: what a state stands for, a weaker one stands for, too. Values may be forgotten, objects renumbered, dropped, boxes frozen. Conditions: none; lemmas over any program.
-/
import Derived.Test.YtiiaccpcoclklaaGreatBTypingUnionsProof3
set_option linter.unusedSimpArgs false
set_option linter.unusedVariables false
namespace Go.Proofs.YtiiaccpcoclklaaGreat
namespace Abs
open Go

def opSlots (ops : Array Oper) (o : Oper) : List Nat :=
  (o.op.operands.toList.filterMap fun | .tmp t => some t | _ => none) ++ (match o.guard with | some (g, _) => ((ops[g]?).bind (·.dst)).toList | none => [])

theorem aev_congr {tm tm' : List AV} {ops : Array Oper} {o : Oper} (h : ∀ n ∈ opSlots ops o, tm'.getD n .unk = tm.getD n .unk) : ∀ x ∈ o.op.operands, aev tm' x = aev tm x := by
  intro x hx
  cases x with
  | tmp t => exact h t (List.mem_append_left _ (List.mem_filterMap.2 ⟨.tmp t, by simpa using hx, rfl⟩))
  | const v => rfl
  | func f => rfl
  | global g => rfl

theorem awanted_congr {tm tm' : List AV} {ops : Array Oper} {o : Oper} (h : ∀ n ∈ opSlots ops o, tm'.getD n .unk = tm.getD n .unk) : awanted ops tm' o = awanted ops tm o := by
  unfold awanted
  cases hg : o.guard with
  | none => rfl
  | some p =>
    obtain ⟨j, want⟩ := p
    simp only
    cases hd : (ops[j]?).bind (·.dst) with
    | none => rfl
    | some d =>
      simp only
      rw [h d (by unfold opSlots; rw [hg]; simp [hd])]

theorem eff_heap {P : Program} {ops : Array Oper} {o : Oper} {s : ASt} {k : Nat} {rd : List Nat} {ws : List Wr} (hw : awanted ops s.tmps o = some true) (h : heapOp P k o (aev s.tmps) (obj? s.heap) = some (rd, ws)) : AEff P ops o s ⟨opSlots ops o, rd, ws⟩ := by
  intro t ht
  refine .inl ⟨by rw [awanted_congr ht.rs]; exact hw, heap_sound (k := k) (rd := rd) ?_⟩
  exact heapOp_congr h (aev_congr ht.rs) ht.ro

theorem eff_skip {P : Program} {ops : Array Oper} {o : Oper} {s : ASt} (hw : awanted ops s.tmps o = some false) : AEff P ops o s ⟨opSlots ops o, [], toDst o.dst (.tup [])⟩ := by
  intro t ht
  exact .inr ⟨by rw [awanted_congr ht.rs]; exact hw, rfl⟩

/-- Keeps simp out of a part of a term: an argument on which another one's type hangs is not looked into. -/
inductive Keep {α : Type} (a : α) : Type where
  | mk : Keep a

/-- A call, by a contract; K is handed the next free object's number, the objects that were touched, and what is written. -/
def ACallK (P : Program) (f : Nat) (args : List AV) (dst : Option Tmp) (s : ASt) (k : Nat) (K : Nat → List Nat → List Wr → Prop) (_ : Keep K) : Prop :=
  okFn P f = true ∧ ∃ (ρ ks : List Nat) (aargs : List AV) (H : List AObj) (res : AV) (H' : List AObj), Passes s ρ ks H ∧ H'.length = (ρ ++ ks).length ∧ SWs args (aargs.map (ren (nm (ρ ++ ks) s.heap.length))) ∧ ACalls P f aargs H res H' ∧
    K (k + ks.length) (ρ ++ ks) (wrObjs (ρ ++ ks) (H'.map (renO (nm (ρ ++ ks) s.heap.length))) ++ toDst dst (ren (nm (ρ ++ ks) s.heap.length) res))

theorem eff_call {P : Program} {ops : Array Oper} {o : Oper} {s : ASt} {fo : Operand} {args : Array Operand} {argTypes : Array TypeId} {f : Nat} {caps aargs : List AV} {ρ ks : List Nat} {H H' : List AObj} {res : AV} (hw : awanted ops s.tmps o = some true)
    (ho : o.op = .call { callee := .value fo, args, argTypes }) (hf : aev s.tmps fo = .func f caps) (hok : okFn P f = true) (hp : Passes s ρ ks H) (hH : H'.length = (ρ ++ ks).length)
    (hargs : SWs (args.toList.map (aev s.tmps) ++ caps) (aargs.map (ren (nm (ρ ++ ks) s.heap.length)))) (hc : ACalls P f aargs H res H') :
    AEff P ops o s ⟨opSlots ops o, ρ ++ ks, wrObjs (ρ ++ ks) (H'.map (renO (nm (ρ ++ ks) s.heap.length))) ++ toDst o.dst (ren (nm (ρ ++ ks) s.heap.length) res)⟩ := by
  intro t ht
  have hop := aev_congr ht.rs
  have hfo : fo ∈ o.op.operands := by rw [ho]; simp [Op.operands, Call.operands]
  have hp' : Passes t ρ ks H := by
    refine ⟨hp.nodup, hp.hlen, fun l hl => by rw [ht.hl]; exact hp.lt l hl, fun l hl => by rw [ht.ro l (List.mem_append_right _ hl)]; exact hp.res l hl, fun i l hi => ?_⟩
    rw [ht.ro l (List.mem_append_left _ (List.mem_of_getElem? hi)), ht.hl]; exact hp.obj i l hi
  have hmap : args.toList.map (aev t.tmps) = args.toList.map (aev s.tmps) := map_congr_mem _ (fun x hx => hop x (by rw [ho]; simp only [Op.operands, Call.operands]; exact Array.mem_append.2 (.inr (Array.mem_toList_iff.1 hx))))
  have := opT_call (P := P) (o := o) (s := t) ho (by rw [hop fo hfo]; exact hf) hok hp' hH (by rw [hmap, ht.hl]; exact hargs) hc
  rw [ht.hl] at this
  exact .inl ⟨by rw [awanted_congr ht.rs]; exact hw, this⟩

def isAlloc : Op → Nat
  | .alloc _ => 1
  | .box _ _ => 1
  | .makeMap _ _ => 1
  | .buildSlice _ _ _ => 1
  | .call { callee := .builtin .append, .. } => 1
  | _ => 0

def callOf : Op → Option (Operand × Array Operand)
  | .call { callee := .value f, args, .. } => some (f, args)
  | _ => none

theorem callOf_spec {op : Op} {f : Operand} {args : Array Operand} (h : callOf op = some (f, args)) : ∃ t, op = .call { callee := .value f, args, argTypes := t } := by
  unfold callOf at h
  split at h
  · cases h; exact ⟨_, rfl⟩
  · cases h

/-- A guard, a result and a function value, as simp meets them: their first part alone is looked into. -/
def onW (r : Option Bool) (A B : Prop) (_ : Keep (A, B)) : Prop := ∃ c, r = some c ∧ (c = true → A) ∧ (c = false → B)
def optK (r : Option (List Nat × List Wr)) (f : List Nat → List Wr → Prop) (_ : Keep f) : Prop := ∃ rd ws, r = some (rd, ws) ∧ f rd ws
def funK (v : AV) (f : Nat → List AV → Prop) (_ : Keep f) : Prop := ∃ fid caps, v = .func fid caps ∧ f fid caps

theorem onW_true {A B : Prop} {h : Keep (A, B)} : onW (some true) A B h = A := by simp [onW]
theorem onW_false {A B : Prop} {h : Keep (A, B)} : onW (some false) A B h = B := by simp [onW]
theorem onW_some {A B : Prop} {h : Keep (A, B)} (c : Bool) : onW (some c) A B h = ((c = true → A) ∧ (c = false → B)) := by simp [onW]
theorem optK_some {f : List Nat → List Wr → Prop} {h : Keep f} (rd : List Nat) (ws : List Wr) : optK (some (rd, ws)) f h = f rd ws := by
  apply propext
  constructor
  · rintro ⟨_, _, h, h2⟩; cases h; exact h2
  · intro h; exact ⟨rd, ws, rfl, h⟩
theorem funK_func {f : Nat → List AV → Prop} {h : Keep f} (fid : Nat) (caps : List AV) : funK (.func fid caps) f h = f fid caps := by
  apply propext
  constructor
  · rintro ⟨_, _, h, h2⟩; cases h; exact h2
  · intro h; exact ⟨fid, caps, rfl, h⟩

/-- THE WALK OF A REGION (with what is touched, for an order that is drawn). -/
def awalk (P : Program) (ops : Array Oper) : List Oper → Nat → List Eff → ASt → (List Eff → ASt → Prop) → Prop
  | [], _, es, s, K => K es.reverse s
  | o :: l, k, es, s, K => onW (awanted ops s.tmps o)
      (match callOf o.op with
        | some (f, args) => funK (aev s.tmps f) (fun fid caps => ACallK P fid (args.toList.map (aev s.tmps) ++ caps) o.dst s k (fun k' ro ws => awalk P ops l k' (⟨opSlots ops o, ro, ws⟩ :: es) (s.wr ws) K) .mk) .mk
        | none => optK (heapOp P k o (aev s.tmps) (obj? s.heap)) (fun rd ws => awalk P ops l (k + isAlloc o.op) (⟨opSlots ops o, rd, ws⟩ :: es) (s.wr ws) K) .mk)
      (awalk P ops l k (⟨opSlots ops o, [], toDst o.dst (.tup [])⟩ :: es) (s.wr (toDst o.dst (.tup []))) K) .mk

/-- The same without the record. -/
def awalkU (P : Program) (ops : Array Oper) : List Oper → Nat → ASt → (ASt → Prop) → Prop
  | [], _, s, K => K s
  | o :: l, k, s, K => onW (awanted ops s.tmps o)
      (match callOf o.op with
        | some (f, args) => funK (aev s.tmps f) (fun fid caps => ACallK P fid (args.toList.map (aev s.tmps) ++ caps) o.dst s k (fun k' _ ws => awalkU P ops l k' (s.wr ws) K) .mk) .mk
        | none => optK (heapOp P k o (aev s.tmps) (obj? s.heap)) (fun rd ws => awalkU P ops l (k + isAlloc o.op) (s.wr ws) K) .mk)
      (awalkU P ops l k (s.wr (toDst o.dst (.tup []))) K) .mk

theorem awalk_sound {P : Program} {ops : Array Oper} : ∀ (l : List Oper) (k : Nat) (es : List Eff) (s : ASt) (K : List Eff → ASt → Prop), awalk P ops l k es s K → ∃ es' s', ATr P ops l es' s s' ∧ K (es.reverse ++ es') s' := by
  intro l
  induction l with
  | nil => intro k es s K h; exact ⟨[], s, .nil s, by simpa [awalk] using h⟩
  | cons o l ih =>
    intro k es s K h
    obtain ⟨c, hc, h1, h2⟩ := h
    have fin : ∀ (e : Eff) (k' : Nat), AEff P ops o s e → awalk P ops l k' (e :: es) (s.wr e.ws) K → ∃ es' s', ATr P ops (o :: l) es' s s' ∧ K (es.reverse ++ es') s' := fun e k' he hw => by
      obtain ⟨es', s', g1, g2⟩ := ih k' (e :: es) _ K hw
      exact ⟨e :: es', s', .cons he g1, by simpa using g2⟩
    cases c with
    | false => exact fin _ k (eff_skip hc) (h2 rfl)
    | true =>
      have h1 := h1 rfl
      cases hcall : callOf o.op with
      | none =>
        rw [hcall] at h1
        obtain ⟨rd, ws, g1, g2⟩ := h1
        exact fin _ _ (eff_heap hc g1) g2
      | some p =>
        obtain ⟨f, args⟩ := p
        rw [hcall] at h1
        obtain ⟨fid, caps, g1, hok, ρ, ks, aargs, H, res, H', g2, g3, g4, g5, g6⟩ := h1
        obtain ⟨t, ho⟩ := callOf_spec hcall
        exact fin _ _ (eff_call hc ho g1 hok g2 g3 g4 g5) g6

theorem awalkU_sound {P : Program} {ops : Array Oper} : ∀ (l : List Oper) (k : Nat) (s : ASt) (K : ASt → Prop), awalkU P ops l k s K → ∃ s', ASteps P ops l s s' ∧ K s' := by
  intro l
  induction l with
  | nil => intro k s K h; exact ⟨s, .nil s, h⟩
  | cons o l ih =>
    intro k s K h
    obtain ⟨c, hc, h1, h2⟩ := h
    have fin : ∀ (e : Eff) (k' : Nat), AEff P ops o s e → awalkU P ops l k' (s.wr e.ws) K → ∃ s', ASteps P ops (o :: l) s s' ∧ K s' := fun e k' he hw => by
      obtain ⟨s', g1, g2⟩ := ih k' _ K hw
      exact ⟨s', .cons (he s ⟨rfl, rfl, fun _ _ => rfl, fun _ _ => rfl⟩) g1, g2⟩
    cases c with
    | false => exact fin _ k (eff_skip hc) (h2 rfl)
    | true =>
      have h1 := h1 rfl
      cases hcall : callOf o.op with
      | none =>
        rw [hcall] at h1
        obtain ⟨rd, ws, g1, g2⟩ := h1
        exact fin _ _ (eff_heap hc g1) g2
      | some p =>
        obtain ⟨f, args⟩ := p
        rw [hcall] at h1
        obtain ⟨fid, caps, g1, hok, ρ, ks, aargs, H, res, H', g2, g3, g4, g5, g6⟩ := h1
        obtain ⟨t, ho⟩ := callOf_spec hcall
        exact fin _ _ (eff_call hc ho g1 hok g2 g3 g4 g5) g6

def nAlloc (l : List Oper) : Nat := (l.map fun o => isAlloc o.op).foldl (· + ·) 0

theorem AWP.reg {P : Program} {id : Nat} {l : List Oper} {Q : Exit → ASt → Prop} {s : ASt} (n : Nat) (h : awalkU P l.toArray l s.heap.length (s.reserve n) (Q .normal)) : AWP P (.region id l.toArray false) Q s := by
  obtain ⟨s', h1, h2⟩ := awalkU_sound _ _ _ _ h
  exact AWP.region n h1 h2

theorem AWP.regD {P : Program} {id : Nat} {l : List Oper} {Q : Exit → ASt → Prop} {s : ASt} (n : Nat) (hm : P.follows .mixedOrders = true) (h : awalk P l.toArray l s.heap.length [] (s.reserve n) fun es s' => okOrder l es = true ∧ Q .normal s') : AWP P (.region id l.toArray true) Q s := by
  obtain ⟨es, s', h1, h2, h3⟩ := awalk_sound _ _ _ _ _ h
  exact AWP.drawn n hm h1 (by simpa using h2) h3

theorem AWP.seqK {P : Program} {x y : Code} {Q : Exit → ASt → Prop} {s : ASt} (h : ∀ K : ASt → Prop, (∀ s, AWP P y Q s → K s) → AWP P x (thenA K Q) s) : AWP P (.seq x y) Q s := AWP.seq (h _ fun _ h => h)

/-- A function that needs no private object and hands none back. -/
def APure (P : Program) (f : Nat) (args : List AV) (res : AV) : Prop := (∀ g, args.map (ren g) = args) ∧ (∀ g, ren g res = res) ∧ ACalls P f args [] res []

theorem ACallK.pure {P : Program} {f : Nat} {args : List AV} {dst : Option Tmp} {s : ASt} {k : Nat} {K : Nat → List Nat → List Wr → Prop} {res : AV} (h : APure P f args res) (hok : okFn P f = true) (hK : K k [] (toDst dst res)) : ACallK P f args dst s k K .mk := by
  refine ⟨hok, [], [], args, [], res, [], ⟨by simp, rfl, fun l hl => (by cases hl), fun l hl => (by cases hl), fun i l hi => by simp at hi⟩, rfl, by rw [h.1]; exact SWs.refl _, h.2.2, ?_⟩
  simp only [List.append_nil, List.length_nil, Nat.add_zero, List.map_nil, wrObjs, List.nil_append, h.2.1]
  exact hK

theorem apure_body {P : Program} {f : Nat} {fn : Func} {c : Code} {args : List AV} {res : AV} (ha : ∀ g, args.map (ren g) = args) (hr : ∀ g, ren g res = res) (hf : P.funcs[f]? = some fn) (hb : fn.body = some c) (hlen : args.length ≤ fn.ntmps)
    (h : AWP P c (bodyQ fun s => ∃ xs, resA P s fn.results.toList = some xs ∧ resV true xs = res) ⟨args ++ List.replicate (fn.ntmps - args.length) (.tup []), []⟩) : APure P f args res := by
  refine ⟨ha, hr, acalls_body true [] hf hb hlen (h.mono ?_)⟩
  intro e s hq
  have key : (∃ xs, resA P s fn.results.toList = some xs ∧ resV true xs = res) → RetQ P fn.results.toList true [] [] res [] s := fun ⟨xs, h1, h2⟩ =>
    ⟨xs, h1, by rw [hr]; exact h2, by simp, rfl, by simp, fun i hi => (by cases hi), fun l hl => (by cases hl), fun i l hi => by simp at hi⟩
  cases e <;> first | exact key hq | exact hq.elim

end Abs
end Go.Proofs.YtiiaccpcoclklaaGreat
namespace Go.Proofs.YtiiaccpcoclklaaGreat
namespace Abs
open Go

section
variable {P : Program} {k : Nat} {d : Option Tmp} {ty : TypeId} {ps : String} {af : Array Edge} {gd : Option (Nat × Bool)} {ρ : Operand → AV} {σ : Nat → AObj}

def ofPure (d : Option Tmp) (r : Option AV) : Option (List Nat × List Wr) := r.map fun v => ([], toDst d v)

theorem ofPure_some {v : AV} : ofPure d (some v) = some ([], toDst d v) := rfl
theorem ofPure_ite {c : Prop} [Decidable c] {x y : Option AV} : ofPure d (if c then x else y) = if c then ofPure d x else ofPure d y := by split <;> rfl

def loadK (P : Program) (t : TypeId) (σ : Nat → AObj) (d : Option Tmp) : AV → Option (List Nat × List Wr)
  | .eptr cs => ofPure d (loadAV P t cs)
  | .ptr l off => match σ l with
    | .box cs => (loadAV P t (cs.drop off)).map fun v => ([l], toDst d v)
    | _ => none
  | _ => none

def storeK (P : Program) (t : TypeId) (σ : Nat → AObj) (d : Option Tmp) : AV → Option (List AV) → Option (List Nat × List Wr)
  | .ptr l off, some vs => match σ l with
    | .box cs => if sizeT P t = some vs.length ∧ off + vs.length ≤ cs.length ∧ vs.all isScalar then some ([l], .obj l (.box (cs.take off ++ vs ++ cs.drop (off + vs.length))) :: toDst d (.tup [])) else none
    | _ => none
  | _, _ => none

theorem hp_move (x : Operand) : heapOp P k ⟨d, .move x, ty, ps, af, gd⟩ ρ σ = some ([], toDst d (ρ x)) := rfl
theorem hp_assign (x : Operand) : heapOp P k ⟨d, .assign x, ty, ps, af, gd⟩ ρ σ = some ([], toDst d (ρ x)) := rfl

theorem hp_of_pure (o : Oper) (h : ∀ ρ σ, pureOp P o.op ρ = none → heapOp P k o ρ σ = none) : heapOp P k o ρ σ = ofPure o.dst (pureOp P o.op ρ) := by
  cases hp : pureOp P o.op ρ with
  | none => exact h ρ σ hp
  | some v => unfold heapOp; rw [hp]; rfl

def pickK (c x y : AV) : Option AV := match c with | .bool t => some (if t then x else y) | _ => none
def nilK (x : AV) : Option AV := match x with | .ptr l o => some (.ptr l o) | .eptr cs => some (.eptr cs) | .func f cs => some (.func f cs) | .flist (cs :: r) => some (.eptr (cs ++ [.flist r])) | _ => none
def unK (op : UnOp) (x : AV) : Option AV := match op, x with | .not, .bool b => some (.bool (!b)) | .neg, .int k n => some (.int k (k.wrap (0 - n))) | _, _ => none
def fieldAddrK (f : Option (Nat × TypeId)) (x : AV) : Option AV := match f with | some (fo, _) => (match x with | .ptr l o => some (.ptr l (o + fo)) | .eptr cs => some (.eptr (cs.drop fo)) | _ => none) | none => none
def fieldK (P : Program) (f : Option (Nat × TypeId)) (x : AV) : Option AV := match f with | some (fo, t) => (match x with | .agg cs => loadAV P t (cs.drop fo) | _ => none) | none => none
def indexAddrK (P : Program) (u : Option TypeDesc) (x i : AV) : Option AV := match i with
  | .int _ n => match u with
    | some (.slice e) => match x, sizeT P e with
      | .slice es _, some sz => if 0 ≤ n ∧ n < es.length ∧ (es.getD n.toNat []).length = sz then some (.eptr (es.getD n.toNat [])) else none
      | _, _ => none
    | some (.array len e) => match x, sizeT P e with
      | .ptr l o, some sz => if 0 ≤ n ∧ n < len then some (.ptr l (o + n.toNat * sz)) else none
      | .eptr cs, some sz => if 0 ≤ n ∧ n < len then some (.eptr (cs.drop (n.toNat * sz))) else none
      | _, _ => none
    | _ => none
  | _ => none
def indexK (st : Bool) (x i : AV) : Option AV := match i, x with | .int _ n, .str s => if st ∧ 0 ≤ n ∧ n < s.length then some (.int .u8 (s.getD n.toNat 0).toNat) else none | _, _ => none
def extractK (x : AV) (i : Nat) : Option AV := match x with | .tup vs => if i < vs.length then some (vs.getD i .unk) else none | _ => none
def lenK (st : Bool) (sl : Option Nat) (x : AV) : Option AV := match x with | .str s => if st then some (.int .i64 s.length) else none | .slice es _ => if sl.isSome then some (.int .i64 es.length) else none | .psl _ _ n => if sl.isSome then some (.int .i64 n) else none | _ => none

theorem hp_pick (c x y : Operand) : heapOp P k ⟨d, .pick c x y, ty, ps, af, gd⟩ ρ σ = ofPure d (pickK (ρ c) (ρ x) (ρ y)) := by rw [hp_of_pure _ (fun ρ σ h => by unfold heapOp; rw [h])]; rfl
theorem hp_nilCheck (x : Operand) : heapOp P k ⟨d, .nilCheck x, ty, ps, af, gd⟩ ρ σ = ofPure d (nilK (ρ x)) := by rw [hp_of_pure _ (fun ρ σ h => by unfold heapOp; rw [h])]; rfl
theorem hp_binOp (op : BinOp) (t t2 : TypeId) (x y : Operand) : heapOp P k ⟨d, .binOp op t x y t2, ty, ps, af, gd⟩ ρ σ = ofPure d (abin P op t (ρ x) (ρ y)) := by rw [hp_of_pure _ (fun ρ σ h => by unfold heapOp; rw [h])]; rfl
theorem hp_unOp (op : UnOp) (t : TypeId) (x : Operand) : heapOp P k ⟨d, .unOp op t x, ty, ps, af, gd⟩ ρ σ = ofPure d (unK op (ρ x)) := by rw [hp_of_pure _ (fun ρ σ h => by unfold heapOp; rw [h])]; rfl
theorem hp_fieldAddr (s f : Nat) (x : Operand) : heapOp P k ⟨d, .fieldAddr s x f, ty, ps, af, gd⟩ ρ σ = ofPure d (fieldAddrK (fieldT P s f) (ρ x)) := by rw [hp_of_pure _ (fun ρ σ h => by unfold heapOp; rw [h])]; rfl
theorem hp_field (s f : Nat) (x : Operand) : heapOp P k ⟨d, .field s x f, ty, ps, af, gd⟩ ρ σ = ofPure d (fieldK P (fieldT P s f) (ρ x)) := by rw [hp_of_pure _ (fun ρ σ h => by unfold heapOp; rw [h])]; rfl
theorem hp_indexAddr (t : Nat) (x i : Operand) : heapOp P k ⟨d, .indexAddr t x i, ty, ps, af, gd⟩ ρ σ = ofPure d (indexAddrK P (P.underlying t) (ρ x) (ρ i)) := by rw [hp_of_pure _ (fun ρ σ h => by unfold heapOp; rw [h])]; rfl
theorem hp_index (t : Nat) (x i : Operand) : heapOp P k ⟨d, .index t x i, ty, ps, af, gd⟩ ρ σ = ofPure d (indexK (pureOp.isStrT P t) (ρ x) (ρ i)) := by rw [hp_of_pure _ (fun ρ σ h => by unfold heapOp; rw [h])]; rfl
theorem hp_extract (x : Operand) (i : Nat) : heapOp P k ⟨d, .extract x i, ty, ps, af, gd⟩ ρ σ = ofPure d (extractK (ρ x) i) := by rw [hp_of_pure _ (fun ρ σ h => by unfold heapOp; rw [h])]; rfl
theorem hp_slice (t : Nat) (x : Operand) (lo hi : Option Operand) : heapOp P k ⟨d, .slice t x lo hi none, ty, ps, af, gd⟩ ρ σ = ofPure d (pureOp P (.slice t x lo hi none) ρ) := by rw [hp_of_pure _ (fun ρ σ h => by unfold heapOp; rw [h])]
theorem hp_build (t : Nat) (parts : Array (Nat × Operand)) : heapOp P k ⟨d, .build t parts, ty, ps, af, gd⟩ ρ σ = ofPure d (pureOp P (.build t parts) ρ) := by rw [hp_of_pure _ (fun ρ σ h => by unfold heapOp; rw [h])]
theorem hp_makeFunc (f : Nat) (captured : Array Operand) : heapOp P k ⟨d, .makeFunc (.func f) #[] captured, ty, ps, af, gd⟩ ρ σ = some ([], toDst d (.func f (captured.toList.map ρ))) := rfl
theorem hp_convert (s t : Nat) (x : Operand) : heapOp P k ⟨d, .convert s t x, ty, ps, af, gd⟩ ρ σ = ofPure d (pureOp P (.convert s t x) ρ) := by rw [hp_of_pure _ (fun ρ σ h => by unfold heapOp; rw [h])]
theorem hp_len (x : Operand) (t : Nat) : heapOp P k ⟨d, .call ⟨.builtin .len, #[x], #[t]⟩, ty, ps, af, gd⟩ ρ σ = ofPure d (lenK (pureOp.isStrT P t) (pureOp.sliceT P t) (ρ x)) := by rw [hp_of_pure _ (fun ρ σ h => by unfold heapOp; rw [h])]; rfl
theorem hp_max (x y : Operand) (ts : Array TypeId) : heapOp P k ⟨d, .call ⟨.builtin .max, #[x, y], ts⟩, ty, ps, af, gd⟩ ρ σ = ofPure d (pureOp P (.call ⟨.builtin .max, #[x, y], ts⟩) ρ) := by rw [hp_of_pure _ (fun ρ σ h => by unfold heapOp; rw [h])]

theorem hp_load (t : Nat) (x : Operand) : heapOp P k ⟨d, .load t x, ty, ps, af, gd⟩ ρ σ = loadK P t σ d (ρ x) := by
  unfold heapOp
  simp only [pureOp]
  cases ρ x <;> simp only [loadK]
  case eptr cs => cases loadAV P t cs <;> rfl
  case ptr l off => cases σ l <;> rfl
theorem hp_store (t : Nat) (x y : Operand) : heapOp P k ⟨d, .store t x y, ty, ps, af, gd⟩ ρ σ = storeK P t σ d (ρ x) (avCells (ρ y)) := rfl
theorem hp_alloc (t : Nat) : heapOp P k ⟨d, .alloc t, ty, ps, af, gd⟩ ρ σ = if isRes (σ k) then (zeroT P t).map fun z => ([k], .obj k (.box z) :: toDst d (.ptr k 0)) else none := rfl
theorem hp_box (t : Nat) (x : Operand) : heapOp P k ⟨d, .box t x, ty, ps, af, gd⟩ ρ σ = if isRes (σ k) then (avCells (ρ x)).map fun cs => ([k], .obj k (.box cs) :: toDst d (.ptr k 0)) else none := rfl
theorem hp_makeMap (t : Nat) : heapOp P k ⟨d, .makeMap t none, ty, ps, af, gd⟩ ρ σ = if isRes (σ k) then some ([k], .obj k (.mp []) :: toDst d (.mapr k)) else none := rfl
end

section
variable {P : Program} {ops : Array Oper} {l : List Oper} {k : Nat} {es : List Eff} {s : ASt}
theorem awU_nil {K : ASt → Prop} : awalkU P ops [] k s K = K s := rfl
theorem awU_cons {K : ASt → Prop} (d : Option Tmp) (op : Op) (ty : TypeId) (ps : String) (af : Array Edge) (gd : Option (Nat × Bool)) : awalkU P ops (⟨d, op, ty, ps, af, gd⟩ :: l) k s K = onW (awanted ops s.tmps ⟨d, op, ty, ps, af, gd⟩)
      (match callOf op with
        | some (f, args) => funK (aev s.tmps f) (fun fid caps => ACallK P fid (args.toList.map (aev s.tmps) ++ caps) d s k (fun k' _ ws => awalkU P ops l k' (s.wr ws) K) .mk) .mk
        | none => optK (heapOp P k ⟨d, op, ty, ps, af, gd⟩ (aev s.tmps) (obj? s.heap)) (fun _ ws => awalkU P ops l (k + isAlloc op) (s.wr ws) K) .mk)
      (awalkU P ops l k (s.wr (toDst d (.tup []))) K) .mk := rfl
theorem aw_nil {K : List Eff → ASt → Prop} : awalk P ops [] k es s K = K es.reverse s := rfl
theorem aw_cons {K : List Eff → ASt → Prop} (d : Option Tmp) (op : Op) (ty : TypeId) (ps : String) (af : Array Edge) (gd : Option (Nat × Bool)) : awalk P ops (⟨d, op, ty, ps, af, gd⟩ :: l) k es s K = onW (awanted ops s.tmps ⟨d, op, ty, ps, af, gd⟩)
      (match callOf op with
        | some (f, args) => funK (aev s.tmps f) (fun fid caps => ACallK P fid (args.toList.map (aev s.tmps) ++ caps) d s k (fun k' ro ws => awalk P ops l k' (⟨opSlots ops ⟨d, op, ty, ps, af, gd⟩, ro, ws⟩ :: es) (s.wr ws) K) .mk) .mk
        | none => optK (heapOp P k ⟨d, op, ty, ps, af, gd⟩ (aev s.tmps) (obj? s.heap)) (fun rd ws => awalk P ops l (k + isAlloc op) (⟨opSlots ops ⟨d, op, ty, ps, af, gd⟩, rd, ws⟩ :: es) (s.wr ws) K) .mk)
      (awalk P ops l k (⟨opSlots ops ⟨d, op, ty, ps, af, gd⟩, [], toDst d (.tup [])⟩ :: es) (s.wr (toDst d (.tup []))) K) .mk := rfl
end

theorem AWP.reg' {P : Program} {id : Nat} {l : List Oper} {Q : Exit → ASt → Prop} {s : ASt} (h : awalkU P l.toArray l s.heap.length (s.reserve (nAlloc l)) (Q .normal)) : AWP P (.region id l.toArray false) Q s := AWP.reg _ h
theorem AWP.regD' {P : Program} {id : Nat} {l : List Oper} {Q : Exit → ASt → Prop} {s : ASt} (hm : P.follows .mixedOrders = true) (h : awalk P l.toArray l s.heap.length [] (s.reserve (nAlloc l)) fun es s' => okOrder l es = true ∧ Q .normal s') : AWP P (.region id l.toArray true) Q s := AWP.regD _ hm h
theorem AWP.condT {P : Program} {c : Operand} {x y : Code} {Q : Exit → ASt → Prop} {s : ASt} (hc : aev s.tmps c = .bool true) (h : AWP P x Q s) : AWP P (.cond c x y) Q s := AWP.cond hc (fun _ => h) (fun e => by cases e)
theorem AWP.condF {P : Program} {c : Operand} {x y : Code} {Q : Exit → ASt → Prop} {s : ASt} (hc : aev s.tmps c = .bool false) (h : AWP P y Q s) : AWP P (.cond c x y) Q s := AWP.cond hc (fun e => by cases e) (fun _ => h)

def guardV (v : AV) (want : Bool) : Option Bool := match v with | .bool b => some (b == want) | .tup [] => some false | _ => none
def guardK (o : Option Oper) (tm : List AV) (want : Bool) : Option Bool := match o with | some ⟨some d, _, _, _, _, _⟩ => guardV (tm.getD d .unk) want | _ => none
theorem aw_some (l : List Oper) (tm : List AV) (d : Option Tmp) (op : Op) (ty : TypeId) (ps : String) (af : Array Edge) (j : Nat) (want : Bool) : awanted l.toArray tm ⟨d, op, ty, ps, af, some (j, want)⟩ = guardK (l[j]?) tm want := by
  unfold awanted guardK
  simp only [List.getElem?_toArray]
  cases l[j]? with
  | none => rfl
  | some o =>
    obtain ⟨dst, _, _, _, _, _⟩ := o
    cases dst <;> rfl
theorem guardK_some (d : Nat) (op : Op) (ty : TypeId) (ps : String) (af : Array Edge) (gd : Option (Nat × Bool)) (tm : List AV) (want : Bool) : guardK (some ⟨some d, op, ty, ps, af, gd⟩) tm want = guardV (tm.getD d .unk) want := rfl
theorem guardV_bool (b want : Bool) : guardV (.bool b) want = some (b == want) := rfl
theorem guardV_tt : guardV (.bool true) true = some true := rfl
theorem guardV_tf : guardV (.bool true) false = some false := rfl
theorem guardV_ft : guardV (.bool false) true = some false := rfl
theorem guardV_ff : guardV (.bool false) false = some true := rfl
theorem pickK_t (x y : AV) : pickK (.bool true) x y = some x := rfl
theorem pickK_f (x y : AV) : pickK (.bool false) x y = some y := rfl
theorem unK_not (b : Bool) : unK .not (.bool b) = some (.bool (!b)) := rfl
theorem guardV_undef (want : Bool) : guardV (.tup []) want = some false := rfl

theorem onW_f {b : Bool} {A B : Prop} (h1 : b = false → A) (h2 : b = true → B) : onW (some (b == false)) A B .mk := by
  cases b
  · exact ⟨true, rfl, fun _ => h1 rfl, fun e => by cases e⟩
  · exact ⟨false, rfl, fun e => (by cases e), fun _ => h2 rfl⟩
theorem onW_t {b : Bool} {A B : Prop} (h1 : b = true → A) (h2 : b = false → B) : onW (some (b == true)) A B .mk := by
  cases b
  · exact ⟨false, rfl, fun e => (by cases e), fun _ => h2 rfl⟩
  · exact ⟨true, rfl, fun _ => h1 rfl, fun e => by cases e⟩

theorem callOf_call (f : Operand) (args : Array Operand) (ts : Array TypeId) : callOf (.call ⟨.value f, args, ts⟩) = some (f, args) := rfl
theorem thenA_normal (K : ASt → Prop) (Q : Exit → ASt → Prop) (s : ASt) : thenA K Q .normal s = K s := rfl
theorem thenA_ret (K : ASt → Prop) (Q : Exit → ASt → Prop) (s : ASt) : thenA K Q .ret s = Q .ret s := rfl
theorem thenA_exit (K : ASt → Prop) (Q : Exit → ASt → Prop) (s : ASt) (n : Nat) : thenA K Q (.exit n) s = Q (.exit n) s := rfl
theorem inBlock_normal (id : Nat) (Q : Exit → ASt → Prop) (s : ASt) : inBlockA id Q .normal s = Q .normal s := rfl
theorem inBlock_ret (id : Nat) (Q : Exit → ASt → Prop) (s : ASt) : inBlockA id Q .ret s = Q .ret s := rfl
theorem inBlock_exit (id n : Nat) (Q : Exit → ASt → Prop) (s : ASt) : inBlockA id Q (.exit n) s = if n = id then Q .normal s else Q (.exit n) s := rfl
theorem bodyQ_normal (R : ASt → Prop) (s : ASt) : bodyQ R .normal s = R s := rfl
theorem bodyQ_ret (R : ASt → Prop) (s : ASt) : bodyQ R .ret s = R s := rfl

theorem wr_nil (s : ASt) : s.wr [] = s := rfl
theorem wr_slot1 (t : List AV) (h : List AObj) (n : Nat) (v : AV) (ws : List Wr) : ASt.wr ⟨t, h⟩ (.slot n v :: ws) = ASt.wr ⟨t.set n v, h⟩ ws := rfl
theorem wr_obj1 (t : List AV) (h : List AObj) (n : Nat) (o : AObj) (ws : List Wr) : ASt.wr ⟨t, h⟩ (.obj n o :: ws) = ASt.wr ⟨t, h.set n o⟩ ws := rfl
theorem reserve_mk (t : List AV) (h : List AObj) (n : Nat) : ASt.reserve ⟨t, h⟩ n = ⟨t, h ++ List.replicate n .res⟩ := rfl
theorem obj?_cons_zero (o : AObj) (h : List AObj) : obj? (o :: h) 0 = o := rfl
theorem obj?_cons_succ (o : AObj) (h : List AObj) (n : Nat) : obj? (o :: h) (n + 1) = obj? h n := rfl
theorem isRes_res : isRes .res = true := rfl
theorem toDst_some (n : Nat) (v : AV) : toDst (some n) v = [.slot n v] := rfl
theorem toDst_none (v : AV) : toDst none v = [] := rfl
theorem aev_tmp (tm : List AV) (t : Nat) : aev tm (.tmp t) = tm.getD t .unk := rfl
theorem aev_func (tm : List AV) (f : Nat) : aev tm (.func f) = .func f [] := rfl
theorem aev_const (tm : List AV) (v : Value) : aev tm (.const v) = ofConst v := rfl
theorem oc_i64 (n : Int) (h1 : -9223372036854775808 ≤ n) (h2 : n ≤ 9223372036854775807) : ofConst (.int .i64 n) = .int .i64 n := by
  simp only [ofConst]; rw [if_pos]; exact ⟨by simp [IntKind.min, IntKind.signed, IntKind.bits]; omega, by simp [IntKind.max, IntKind.signed, IntKind.bits]; omega⟩
theorem oc_u8 (n : Int) (h1 : 0 ≤ n) (h2 : n ≤ 255) : ofConst (.int .u8 n) = .int .u8 n := by
  simp only [ofConst]; rw [if_pos]; exact ⟨by simp [IntKind.min, IntKind.signed]; omega, by simp [IntKind.max, IntKind.signed, IntKind.bits]; omega⟩
theorem oc_bool (b : Bool) : ofConst (.bool b) = .bool b := rfl
theorem oc_str (l : List UInt8) (h : l.length ≤ 9223372036854775807) : ofConst (.string ⟨l.toArray⟩) = .str l := by simp only [ofConst]; rw [if_pos (by simpa using h)]
theorem oc_nils : ofConst (.slice none 0 0) = .slice [] .nils := rfl
theorem oc_nilp : ofConst (.pointer none) = .nilp := rfl
theorem oc_nilFunc : ofConst .nilFunc = .nilFunc := rfl
theorem aw_none (ops : Array Oper) (tm : List AV) (d : Option Tmp) (op : Op) (ty : TypeId) (ps : String) (af : Array Edge) : awanted ops tm ⟨d, op, ty, ps, af, none⟩ = some true := rfl

end Abs
end Go.Proofs.YtiiaccpcoclklaaGreat
namespace Go.Proofs.YtiiaccpcoclklaaGreat
namespace Abs
open Go

inductive IxT where
  | sl (sz : Option Nat)
  | arr (len : Nat) (sz : Option Nat)
  | no

structure TI where
  size : Option Nat
  agg : Option Bool
  isPtr : Bool
  isBool : Bool
  isStr : Bool
  isStruct : Bool
  isSl : Bool
  int : Option IntKind
  ix : IxT
  field : List (Option (Nat × TypeId))
  place : List (Option (Nat × Nat))
  zero : Option (List AV)
  zav : Option AV
  slT : Option Nat
  elem : Option (TypeId × Nat × Nat)
  smap : Option TypeId

def intTy (P : Program) (t : TypeId) : Option IntKind := match P.underlying t with | some (.int k) => some k | _ => none
def ixTy (P : Program) (t : TypeId) : IxT := match P.underlying t with | some (.slice e) => .sl (sizeT P e) | some (.array n e) => .arr n (sizeT P e) | _ => .no
def fieldsT (P : Program) (t : TypeId) : List (Option (Nat × TypeId)) := match P.underlying t with | some (.struct fs) => fs.toList.map fun x => (match sizeT P x.type with | some (_ + 1) => some (x.offset, x.type) | _ => none) | _ => []
def placesT (P : Program) (t : TypeId) : List (Option (Nat × Nat)) := match P.underlying t with | some (.struct fs) => fs.toList.map fun f => (sizeT P f.type).map fun n => (f.offset, n) | _ => []

def TI.of (P : Program) (t : TypeId) : TI :=
  { size := sizeT P t, agg := isAggT P t, isPtr := isPtrT P t, isBool := isBoolT P t, isStr := pureOp.isStrT P t, isStruct := isStructT P t, isSl := heapOp.isSliceT P t, int := intTy P t, ix := ixTy P t, field := fieldsT P t, place := placesT P t, zero := zeroT P t, zav := zeroAV P t, slT := pureOp.sliceT P t, elem := elemT P t, smap := strMapT P t }

def lk {α : Type} : List (Option α) → Nat → Option α
  | [], _ => none
  | x :: _, 0 => x
  | _ :: l, n + 1 => lk l n

theorem lk_eq {α : Type} : ∀ (l : List (Option α)) (n : Nat), lk l n = (l[n]?).bind id := by
  intro l
  induction l with
  | nil => intro n; simp [lk]
  | cons a l ih => intro n; cases n with
    | zero => simp [lk]
    | succ n => simp [lk, ih]

theorem fieldT_eq (P : Program) (s f : Nat) : lk (TI.of P s).field f = fieldT P s f := by
  rw [lk_eq]
  show (fieldsT P s)[f]?.bind id = _
  unfold fieldsT fieldT
  split
  · rename_i fs h
    simp only [List.getElem?_map, Array.getElem?_toList, h]
    cases fs[f]? <;> rfl
  · rename_i hn
    cases hu : P.underlying s with
    | none => rfl
    | some d => cases d <;> first | rfl | exact (hn _ hu).elim

theorem placeT_eq (P : Program) (s f : Nat) : lk (TI.of P s).place f = placeT P s f := by
  rw [lk_eq]
  show (placesT P s)[f]?.bind id = _
  unfold placesT placeT
  split
  · rename_i fs h
    simp only [List.getElem?_map, Array.getElem?_toList, h]
    cases fs[f]? <;> rfl
  · rename_i hn
    cases hu : P.underlying s with
    | none => rfl
    | some d => cases d <;> first | rfl | exact (hn _ hu).elim

def lenAgg (n : Nat) (cs : List AV) : Option AV := if cs.length = n then some (.agg cs) else if n ≤ cs.length then some (.agg (cs.take n)) else none

def loadT (τ : Nat → TI) (t : TypeId) (cs : List AV) : Option AV :=
  match (τ t).agg with
  | some true => match (τ t).size with
    | some n => lenAgg n cs
    | none => none
  | some false => match cs with | [] => none | c :: _ => some c
  | none => none

theorem loadT_eq (P : Program) (t : TypeId) (cs : List AV) : loadT (TI.of P) t cs = loadAV P t cs := rfl

def binT (τ : Nat → TI) (op : BinOp) (t : TypeId) : AV → AV → Option AV
  | .int k a, .int k' b => if k = k' then (match op with
    | .add => some (.int k (k.wrap (a + b)))
    | .sub => some (.int k (k.wrap (a - b)))
    | .mul => some (.int k (k.wrap (a * b)))
    | .quo => if b = 0 then none else some (.int k (k.wrap (a.tdiv b)))
    | .rem => if b = 0 then none else some (.int k (a.tmod b))
    | .eql => some (.bool (a == b))
    | .neq => some (.bool (a != b))
    | .lss => some (.bool (decide (a < b)))
    | .leq => some (.bool (decide (a ≤ b)))
    | .gtr => some (.bool (decide (b < a)))
    | .geq => some (.bool (decide (b ≤ a)))
    | _ => none) else none
  | .str a, .str b => match op with
    | .add => if a.length + b.length ≤ 9223372036854775807 then some (.str (a ++ b)) else none
    | .eql => some (.bool (a == b))
    | .neq => some (.bool (!(a == b)))
    | .lss => some (.bool (Op.bytesLess a b))
    | .leq => some (.bool (Op.bytesLess a b || a == b))
    | .gtr => some (.bool (!(Op.bytesLess a b || a == b)))
    | .geq => some (.bool (!(Op.bytesLess a b)))
    | _ => none
  | .bool a, .bool b => if (τ t).isBool then (match op with
    | .eql => some (.bool (a == b))
    | .neq => some (.bool (!(a == b)))
    | _ => none) else none
  | x, .nilp => if (τ t).isPtr then (match op, isNilA x with
    | .eql, some b => some (.bool b)
    | .neq, some b => some (.bool (!b))
    | _, _ => none) else none
  | _, _ => none

theorem binT_eq (P : Program) (op : BinOp) (t : TypeId) (x y : AV) : binT (TI.of P) op t x y = abin P op t x y := rfl
end Abs
end Go.Proofs.YtiiaccpcoclklaaGreat
namespace Go.Proofs.YtiiaccpcoclklaaGreat
namespace Abs
open Go

def onB : Bool → Prop → Prop → Prop
  | true, A, _ => A
  | false, _, B => B
def onO {α : Type} : Option α → (α → Prop) → Prop
  | some x, K => K x
  | none, _ => False

theorem onB_split {b : Bool} {A B : Prop} (h1 : b = true → A) (h2 : b = false → B) : onB b A B := by cases b <;> simp_all [onB]
theorem onB_elim {b : Bool} {A B : Prop} (h : onB b A B) : (b = true ∧ A) ∨ (b = false ∧ B) := by cases b <;> simp_all [onB]
theorem onO_elim {α : Type} {r : Option α} {K : α → Prop} (h : onO r K) : ∃ x, r = some x ∧ K x := by cases r with | none => exact h.elim | some x => exact ⟨x, rfl, h⟩

/-- An element of a slice: which one it is and that there is one is asked. -/
def IdxK (es : List (List AV)) (n : Int) (sz : Nat) (K : AV → Prop) : Prop := ∃ cs, es[n.toNat]? = some cs ∧ 0 ≤ n ∧ cs.length = sz ∧ K (.eptr cs)
def StrIdxK (s : List UInt8) (n : Int) (K : AV → Prop) : Prop := (0 ≤ n ∧ n < s.length) ∧ K (.int .u8 (s.getD n.toNat 0).toNat)
def CatK (a b : List UInt8) (K : AV → Prop) : Prop := a.length + b.length ≤ 9223372036854775807 ∧ K (.str (a ++ b))
def CutS (s : List UInt8) (lo hi : Option AV) (K : AV → Prop) : Prop := ∃ l h, boundA hi s.length s.length = some h ∧ boundA lo 0 h = some l ∧ K (.str ((s.drop l).take (h - l)))
def CutL (es : List (List AV)) (sz : Nat) (lo hi : Option AV) (K : AV → Prop) : Prop := ∃ l h, boundA hi es.length es.length = some h ∧ boundA lo 0 h = some l ∧ (l < es.length → (es.getD l []).length = sz) ∧ K (.slice ((es.drop l).take (h - l)) .shared)
def ArrK (n : Int) (len : Nat) (K : Prop) : Prop := (0 ≤ n ∧ n < len) ∧ K
def AppN (ys : List (List AV)) (sz bytes : Nat) (K : Prop) : Prop := (ys.length * bytes ≤ 140737488355328 ∧ ys.length ≤ 140737488355328 ∧ (ys.all (okElem sz) = true)) ∧ K
def AppT (n : Nat) (es ys : List (List AV)) (sz bytes : Nat) (K : Prop) : Prop := (n = es.length * sz ∧ (es.length + ys.length) * bytes ≤ 140737488355328 ∧ es.length + ys.length ≤ 140737488355328 ∧ (es.all (okElem sz) = true) ∧ (ys.all (okElem sz) = true)) ∧ K
def PutK (es : List (List UInt8 × AV)) (K : Prop) : Prop := es.length < 140737488355328 ∧ K
def FindK (es : List (List UInt8 × AV)) (s : List UInt8) (A : AV → Prop) (B : Prop) : Prop := (∀ v, findA es s = some v → A v) ∧ (findA es s = none → B)

def idxV (K : AV → Prop) : IxT → AV → AV → Prop
  | .sl (some sz), .slice es _, .int _ n => IdxK es n sz K
  | .arr len (some sz), .ptr l o, .int _ n => ArrK n len (K (.ptr l (o + n.toNat * sz)))
  | .arr len (some sz), .eptr cs, .int _ n => ArrK n len (K (.eptr (cs.drop (n.toNat * sz))))
  | _, _, _ => False

def cutV (isStr : Bool) (slT : Option Nat) (lo hi : Option AV) (K : AV → Prop) : AV → Prop
  | .str s => onB isStr (CutS s lo hi K) False
  | .slice es _ => onO slT fun sz => CutL es sz lo hi K
  | _ => False

def binV (τ : Nat → TI) (op : BinOp) (t : TypeId) (x y : AV) (K : AV → Prop) : Prop :=
  match op, x, y with
  | .add, .str a, .str b => CatK a b K
  | op, x, y => onO (binT τ op t x y) K

def appV (σ : Nat → AObj) (k sz bytes : Nat) (d : Option Tmp) (K : List Nat → List Wr → Prop) : AV → AV → Prop
  | .slice [] .nils, .slice ys _ => onB (isRes (σ k)) (AppN ys sz bytes (K [k] (.obj k (.tip (ys.length * sz)) :: toDst d (.slice ys (.tip k sz))))) False
  | .slice es (.tip l z), .slice ys _ => match σ l with
    | .tip n => onB (isRes (σ k) && z == sz) (AppT n es ys sz bytes (K [l, k] (.obj l .dead :: .obj k (.tip ((es ++ ys).length * sz)) :: toDst d (.slice (es ++ ys) (.tip k sz))))) False
    | _ => False
  | _, _ => False

def stepT (τ : Nat → TI) (k : Nat) (d : Option Tmp) (ρ : Operand → AV) (σ : Nat → AObj) (K : List Nat → List Wr → Prop) : Op → Prop
  | .move x => K [] (toDst d (ρ x))
  | .assign x => K [] (toDst d (ρ x))
  | .pick c x y => match ρ c with
    | .bool b => onB b (K [] (toDst d (ρ x))) (K [] (toDst d (ρ y)))
    | _ => False
  | .nilCheck x => onO (nilK (ρ x)) fun v => K [] (toDst d v)
  | .binOp op t x y _ => binV τ op t (ρ x) (ρ y) fun v => K [] (toDst d v)
  | .unOp op _ x => onO (unK op (ρ x)) fun v => K [] (toDst d v)
  | .fieldAddr s x f => onO (fieldAddrK (lk (τ s).field f) (ρ x)) fun v => K [] (toDst d v)
  | .field s x f => onO (lk (τ s).field f) fun p => match ρ x with
    | .agg cs => onO (loadT τ p.2 (cs.drop p.1)) fun v => K [] (toDst d v)
    | _ => False
  | .indexAddr t x i => idxV (fun v => K [] (toDst d v)) (τ t).ix (ρ x) (ρ i)
  | .index t x i => match ρ x, ρ i with
    | .str s, .int _ n => onB (τ t).isStr (StrIdxK s n fun v => K [] (toDst d v)) False
    | _, _ => False
  | .extract x i => match ρ x with
    | .tup vs => onO (vs[i]?) fun v => K [] (toDst d v)
    | _ => False
  | .slice t x lo hi none => cutV (τ t).isStr (τ t).slT (lo.map ρ) (hi.map ρ) (fun v => K [] (toDst d v)) (ρ x)
  | .build t parts => onB (τ t).isStruct (onO (τ t).zero fun z => onO (fillA (lk (τ t).place) z (parts.toList.map fun p => (p.1, ρ p.2))) fun cs => K [] (toDst d (.agg cs))) False
  | .makeFunc (.func f) first captured => onB (first.toList.isEmpty) (K [] (toDst d (.func f (captured.toList.map ρ)))) False
  | .load t x => match ρ x with
    | .eptr cs => onO (loadT τ t cs) fun v => K [] (toDst d v)
    | .ptr l off => match σ l with
      | .box cs => onO (loadT τ t (cs.drop off)) fun v => K [l] (toDst d v)
      | _ => False
    | _ => False
  | .store t x y => match ρ x with
    | .ptr l off => onO (avCells (ρ y)) fun vs => match σ l with
      | .box cs => onB (decide ((τ t).size = some vs.length ∧ off + vs.length ≤ cs.length) && vs.all isScalar) (K [l] (.obj l (.box (cs.take off ++ vs ++ cs.drop (off + vs.length))) :: toDst d (.tup []))) False
      | _ => False
    | _ => False
  | .alloc t => onB (isRes (σ k)) (onO (τ t).zero fun z => K [k] (.obj k (.box z) :: toDst d (.ptr k 0))) False
  | .box _ x => onB (isRes (σ k)) (onO (avCells (ρ x)) fun cs => K [k] (.obj k (.box cs) :: toDst d (.ptr k 0))) False
  | .makeMap _ none => onB (isRes (σ k)) (K [k] (.obj k (.mp []) :: toDst d (.mapr k))) False
  | .buildSlice t len parts => onO (τ t).elem fun e => onO (τ e.1).zero fun z => onB (isRes (σ k) && (decide (len * e.2.1 ≤ 16777216) && (decide (len ≤ 16777216) && decide (z.length = e.2.1)))) (onO (fillA (fun i => some (i * e.2.1, e.2.1)) ((List.replicate len z).flatten) (parts.toList.map fun p => (p.1, ρ p.2))) fun cs => K [k] (.obj k (.tip (len * e.2.1)) :: toDst d (.slice (chunks e.2.1 len (cs.map shr)) (.tip k e.2.1)))) False
  | .convert s t x => match ρ x with
    | .int _ n => onB (τ s).int.isSome (onO (τ t).int fun k => K [] (toDst d (.int k (k.wrap n)))) False
    | _ => False
  | .call { callee := .builtin .len, args, argTypes } => match args.toList, argTypes.toList with
    | [x], [t] => onO (lenK (τ t).isStr (τ t).slT (ρ x)) fun v => K [] (toDst d v)
    | _, _ => False
  | .call { callee := .builtin .append, args, argTypes } => match args.toList, argTypes.toList with
    | [x, y], [t, t2] => onO (τ t).elem fun e => onB (τ t2).isSl (appV σ k e.2.1 e.2.2 d K (ρ x) (ρ y)) False
    | _, _ => False
  | .call { callee := .builtin .max, args, argTypes := _ } => match args.toList with
    | [x, y] => match ρ x, ρ y with
      | .int k a, .int k' b => onB (decide (k = k')) (K [] (toDst d (.int k (if b > a then b else a)))) False
      | _, _ => False
    | _ => False
  | .lookup t m key ok => onO (τ t).smap fun e => match ρ m, ρ key with
    | .mapr l, .str s => match σ l with
      | .mp es => onO (τ e).zav fun z => FindK es s (fun v => K [l] (toDst d (lookRes (some v) ok z))) (K [l] (toDst d (lookRes none ok z)))
      | _ => False
    | _, _ => False
  | .mapUpdate t m key x => onO (τ t).smap fun _ => match ρ m, ρ key with
    | .mapr l, .str s => match σ l with
      | .mp es => PutK es (K [l] (.obj l (.mp (putA es s (shrD (ρ x)))) :: toDst d (.tup [])))
      | _ => False
    | _, _ => False
  | _ => False

end Abs
end Go.Proofs.YtiiaccpcoclklaaGreat
namespace Go.Proofs.YtiiaccpcoclklaaGreat
namespace Abs
open Go

theorem ofPure_ok {P : Program} {k : Nat} {o : Oper} {ρ : Operand → AV} {σ : Nat → AObj} {v : AV} {K : List Nat → List Wr → Prop} (h : pureOp P o.op ρ = some v) (hK : K [] (toDst o.dst v)) : ∃ rd ws, heapOp P k o ρ σ = some (rd, ws) ∧ K rd ws :=
  ⟨[], toDst o.dst v, by unfold heapOp; rw [h], hK⟩

theorem binV_sound {P : Program} {op : BinOp} {t : TypeId} {x y : AV} {K : AV → Prop} (h : binV (TI.of P) op t x y K) : ∃ v, abin P op t x y = some v ∧ K v := by
  unfold binV at h
  split at h
  · obtain ⟨h1, h2⟩ := h
    exact ⟨_, by simp [abin, h1], h2⟩
  · obtain ⟨v, h1, h2⟩ := onO_elim h
    exact ⟨v, h1, h2⟩

theorem idx_sound {P : Program} {t : TypeId} {x i : Operand} {ρ : Operand → AV} {K : AV → Prop} (h : idxV K (TI.of P t).ix (ρ x) (ρ i)) : ∃ v, pureOp P (.indexAddr t x i) ρ = some v ∧ K v := by
  have hix : (TI.of P t).ix = ixTy P t := rfl
  rw [hix] at h
  simp only [pureOp]
  unfold ixTy at h
  unfold idxV at h
  split at h
  · rename_i sz es tag k n h1 h2 h3
    split at h1
    · rename_i e hu
      simp only [IxT.sl.injEq] at h1
      obtain ⟨cs, g1, g2, g3, g4⟩ := h
      have hlt := (List.getElem?_eq_some_iff.1 g1).1
      have hd : es.getD n.toNat [] = cs := by simp [List.getD, g1]
      refine ⟨.eptr cs, ?_, g4⟩
      simp_all
    · cases h1
    · cases h1
  · rename_i len sz l o k n h1 h2 h3
    split at h1
    · cases h1
    · rename_i n' e hu
      simp only [IxT.arr.injEq] at h1
      obtain ⟨g1, g2⟩ := h
      exact ⟨_, by simp_all, g2⟩
    · cases h1
  · rename_i len sz cs k n h1 h2 h3
    split at h1
    · cases h1
    · rename_i n' e hu
      simp only [IxT.arr.injEq] at h1
      obtain ⟨g1, g2⟩ := h
      exact ⟨_, by simp_all, g2⟩
    · cases h1
  · exact h.elim

theorem cut_sound {P : Program} {t : TypeId} {x : Operand} {lo hi : Option Operand} {ρ : Operand → AV} {K : AV → Prop} (h : cutV (TI.of P t).isStr (TI.of P t).slT (lo.map ρ) (hi.map ρ) K (ρ x)) : ∃ v, pureOp P (.slice t x lo hi none) ρ = some v ∧ K v := by
  have h1 : (TI.of P t).isStr = pureOp.isStrT P t := rfl
  have h2 : (TI.of P t).slT = pureOp.sliceT P t := rfl
  rw [h1, h2] at h
  simp only [pureOp]
  unfold cutV at h
  split at h
  · rename_i s hx
    rcases onB_elim h with ⟨g1, l, hh, g2, g3, g4⟩ | ⟨_, g⟩
    · exact ⟨_, by simp [hx, g1, g2, g3], g4⟩
    · exact g.elim
  · rename_i es tag hx
    obtain ⟨sz, g1, l, hh, g2, g3, g4, g5⟩ := onO_elim h
    exact ⟨_, by simp only [hx, g1, g2, g3]; rw [if_pos g4], g5⟩
  · exact h.elim

theorem stepT_sound {P : Program} {k : Nat} {o : Oper} {ρ : Operand → AV} {σ : Nat → AObj} {K : List Nat → List Wr → Prop} (h : stepT (TI.of P) k o.dst ρ σ K o.op) : ∃ rd ws, heapOp P k o ρ σ = some (rd, ws) ∧ K rd ws := by
  obtain ⟨d, op, ty, ps, af, gd⟩ := o
  simp only at h
  unfold stepT at h
  split at h
  · exact ofPure_ok (o := ⟨d, _, ty, ps, af, gd⟩) rfl h
  · exact ofPure_ok (o := ⟨d, _, ty, ps, af, gd⟩) rfl h
  · rename_i c x y
    split at h
    · rename_i b hb
      rcases onB_elim h with ⟨rfl, g⟩ | ⟨rfl, g⟩
      · exact ofPure_ok (o := ⟨d, _, ty, ps, af, gd⟩) (by simp [pureOp, hb]) g
      · exact ofPure_ok (o := ⟨d, _, ty, ps, af, gd⟩) (by simp [pureOp, hb]) g
    · exact h.elim
  · obtain ⟨v, g1, g2⟩ := onO_elim h
    exact ofPure_ok (o := ⟨d, _, ty, ps, af, gd⟩) g1 g2
  · obtain ⟨v, g1, g2⟩ := binV_sound h
    exact ofPure_ok (o := ⟨d, _, ty, ps, af, gd⟩) g1 g2
  · obtain ⟨v, g1, g2⟩ := onO_elim h
    exact ofPure_ok (o := ⟨d, _, ty, ps, af, gd⟩) g1 g2
  · rw [fieldT_eq] at h
    obtain ⟨v, g1, g2⟩ := onO_elim h
    exact ofPure_ok (o := ⟨d, _, ty, ps, af, gd⟩) g1 g2
  · rw [fieldT_eq] at h
    obtain ⟨p, g1, g2⟩ := onO_elim h
    split at g2
    · rename_i cs hx
      obtain ⟨v, g3, g4⟩ := onO_elim g2
      exact ofPure_ok (o := ⟨d, _, ty, ps, af, gd⟩) (by simp only [pureOp, g1, hx]; exact g3) g4
    · exact g2.elim
  · obtain ⟨v, g1, g2⟩ := idx_sound h
    exact ofPure_ok (o := ⟨d, _, ty, ps, af, gd⟩) g1 g2
  · split at h
    · rename_i s kk n hx hi
      rcases onB_elim h with ⟨g1, g2, g3⟩ | ⟨_, g⟩
      · have g1 : pureOp.isStrT P _ = true := g1
        exact ofPure_ok (o := ⟨d, _, ty, ps, af, gd⟩) (by simp only [pureOp, hx, hi]; rw [if_pos ⟨g1, g2⟩]) g3
      · exact g.elim
    · exact h.elim
  · split at h
    · rename_i vs hx
      obtain ⟨v, g1, g2⟩ := onO_elim h
      have hlt := (List.getElem?_eq_some_iff.1 g1).1
      exact ofPure_ok (o := ⟨d, _, ty, ps, af, gd⟩) (v := v) (by simp only [pureOp, hx]; rw [if_pos hlt]; simp [List.getD, g1]) g2
    · exact h.elim
  · obtain ⟨v, g1, g2⟩ := cut_sound h
    exact ofPure_ok (o := ⟨d, _, ty, ps, af, gd⟩) g1 g2
  · rename_i t parts
    rcases onB_elim h with ⟨g1, g2⟩ | ⟨_, g⟩
    · obtain ⟨z, g3, g4⟩ := onO_elim g2
      obtain ⟨cs, g5, g6⟩ := onO_elim g4
      have g1 : isStructT P t = true := g1
      have g3 : zeroT P t = some z := g3
      have : lk (TI.of P t).place = placeT P t := funext fun i => placeT_eq P t i
      rw [this] at g5
      exact ofPure_ok (o := ⟨d, _, ty, ps, af, gd⟩) (by simp only [pureOp, g1, if_true, g3, g5, Option.map_some]) g6
    · exact g.elim
  · rename_i f first captured
    rcases onB_elim h with ⟨g1, g2⟩ | ⟨_, g⟩
    · have : first.size = 0 := by
        have := List.isEmpty_iff.1 g1
        simpa using this
      exact ofPure_ok (o := ⟨d, _, ty, ps, af, gd⟩) (by simp only [pureOp]; rw [if_pos this]) g2
    · exact g.elim
  · rename_i t x
    split at h
    · rename_i cs hx
      obtain ⟨v, g1, g2⟩ := onO_elim h
      exact ofPure_ok (o := ⟨d, _, ty, ps, af, gd⟩) (by simp only [pureOp, hx]; exact g1) g2
    · rename_i l off hx
      split at h
      · rename_i cs hl
        obtain ⟨v, g1, g2⟩ := onO_elim h
        rw [loadT_eq] at g1
        exact ⟨_, _, by rw [hp_load]; simp only [loadK, hx, hl, g1]; rfl, g2⟩
      · exact h.elim
    · exact h.elim
  · rename_i t x y
    split at h
    · rename_i l off hx
      obtain ⟨vs, g1, g2⟩ := onO_elim h
      split at g2
      · rename_i cs hl
        rcases onB_elim g2 with ⟨g3, g4⟩ | ⟨_, g⟩
        · simp only [Bool.and_eq_true, decide_eq_true_eq] at g3
          have g3' : sizeT P t = some vs.length := g3.1.1
          refine ⟨_, _, ?_, g4⟩
          rw [hp_store]
          simp only [storeK, hx, g1, hl]
          rw [if_pos ⟨g3', g3.1.2, g3.2⟩]
        · exact g.elim
      · exact g2.elim
    · exact h.elim
  · rcases onB_elim h with ⟨g1, g2⟩ | ⟨_, g⟩
    · obtain ⟨z, g3, g4⟩ := onO_elim g2
      have g3 : zeroT P _ = some z := g3
      exact ⟨_, _, by rw [hp_alloc, g1, if_pos rfl, g3]; rfl, g4⟩
    · exact g.elim
  · rcases onB_elim h with ⟨g1, g2⟩ | ⟨_, g⟩
    · obtain ⟨z, g3, g4⟩ := onO_elim g2
      exact ⟨_, _, by rw [hp_box, g1, if_pos rfl, g3]; rfl, g4⟩
    · exact g.elim
  · rcases onB_elim h with ⟨g1, g2⟩ | ⟨_, g⟩
    · exact ⟨_, _, by rw [hp_makeMap, g1, if_pos rfl], g2⟩
    · exact g.elim
  · rename_i t len parts
    obtain ⟨⟨e, sz, by'⟩, g1, g2⟩ := onO_elim h
    obtain ⟨z, g3, g4⟩ := onO_elim g2
    rcases onB_elim g4 with ⟨g5, g6⟩ | ⟨_, g⟩
    · obtain ⟨cs, g7, g8⟩ := onO_elim g6
      have g1 : elemT P t = some (e, sz, by') := g1
      have g3 : zeroT P e = some z := g3
      simp only [Bool.and_eq_true, decide_eq_true_eq] at g5
      refine ⟨_, _, ?_, g8⟩
      simp only [heapOp, pureOp, g1, g3]
      rw [if_pos ⟨g5.1, g5.2.1, g5.2.2.1, g5.2.2.2⟩]
      simp only at g7
      rw [g7]; rfl
    · exact g.elim
  · rename_i s t x
    split at h
    · rename_i kk n hx
      rcases onB_elim h with ⟨g1, g2⟩ | ⟨_, g⟩
      · obtain ⟨kt, g3, g4⟩ := onO_elim g2
        have g1 : (intTy P s).isSome = true := g1
        have g3 : intTy P t = some kt := g3
        refine ofPure_ok (o := ⟨d, _, ty, ps, af, gd⟩) (v := .int kt (kt.wrap n)) ?_ g4
        have hc : pureOp.convT P s t = some kt := by
          unfold intTy at g1 g3
          unfold pureOp.convT
          split at g1
          · rename_i hs
            split at g3
            · rename_i ht; cases g3; simp [hs, ht]
            · cases g3
          · cases g1
        simp only [pureOp, hx, hc]
      · exact g.elim
    · exact h.elim
  · rename_i args argTypes
    split at h
    · rename_i x t ha ht
      obtain ⟨v, g1, g2⟩ := onO_elim h
      exact ofPure_ok (o := ⟨d, _, ty, ps, af, gd⟩) (by simp only [pureOp, ha, ht]; exact g1) g2
    · exact h.elim
  · rename_i args argTypes
    split at h
    · rename_i x y t t2 ha ht
      obtain ⟨⟨e, sz, by'⟩, g1, g2⟩ := onO_elim h
      rcases onB_elim g2 with ⟨g3, g4⟩ | ⟨_, g⟩
      · have g1 : elemT P t = some (e, sz, by') := g1
        have g3 : heapOp.isSliceT P t2 = true := g3
        simp only at g4
        unfold appV at g4
        split at g4
        · rename_i ys tg hx hy
          rcases onB_elim g4 with ⟨g5, g6, g7⟩ | ⟨_, g⟩
          · refine ⟨_, _, ?_, g7⟩
            simp only [heapOp, pureOp, ha, ht, g1, g3, hx, hy]
            rw [if_pos ⟨g5, trivial, g6⟩]
          · exact g.elim
        · rename_i es l z ys tg hx hy
          split at g4
          · rename_i n hl
            rcases onB_elim g4 with ⟨g5, g6, g7⟩ | ⟨_, g⟩
            · simp only [Bool.and_eq_true, beq_iff_eq] at g5
              refine ⟨_, _, ?_, g7⟩
              simp only [heapOp, pureOp, ha, ht, g1, g3, hx, hy, hl]
              rw [if_pos ⟨g5.1, g6.1, g5.2, g6.2⟩]
            · exact g.elim
          · exact g4.elim
        · exact g4.elim
      · exact g.elim
    · exact h.elim
  · rename_i args argTypes
    split at h
    · rename_i x y ha
      split at h
      · rename_i k1 a k2 b hx hy
        rcases onB_elim h with ⟨g1, g2⟩ | ⟨_, g⟩
        · simp only [decide_eq_true_eq] at g1
          exact ofPure_ok (o := ⟨d, _, ty, ps, af, gd⟩) (by simp only [pureOp, ha, hx, hy]; rw [if_pos g1]) g2
        · exact g.elim
      · exact h.elim
    · exact h.elim
  · rename_i t m key ok
    obtain ⟨e, g1, g2⟩ := onO_elim h
    split at g2
    · rename_i l s hm hk
      split at g2
      · rename_i es hl
        obtain ⟨z, g3, g4, g5⟩ := onO_elim g2
        have g1 : strMapT P t = some e := g1
        have g3 : zeroAV P e = some z := g3
        cases hf : findA es s with
        | some v => exact ⟨_, _, by simp only [heapOp, pureOp, g1, hm, hk, hl, g3, hf], g4 v hf⟩
        | none => exact ⟨_, _, by simp only [heapOp, pureOp, g1, hm, hk, hl, g3, hf], g5 hf⟩
      · exact g2.elim
    · exact g2.elim
  · rename_i t m key x
    obtain ⟨e, g1, g2⟩ := onO_elim h
    split at g2
    · rename_i l s hm hk
      split at g2
      · rename_i es hl
        obtain ⟨g3, g4⟩ := g2
        have g1 : strMapT P t = some e := g1
        exact ⟨_, _, by simp only [heapOp, pureOp, g1, hm, hk, hl]; rw [if_pos g3], g4⟩
      · exact g2.elim
    · exact g2.elim
  · exact h.elim
end Abs
end Go.Proofs.YtiiaccpcoclklaaGreat
namespace Go.Proofs.YtiiaccpcoclklaaGreat
namespace Abs
open Go

def fL {α : Type} : List α → (List α → Prop) → Prop
  | [], K => K []
  | x :: xs, K => fL xs fun ys => K (x :: ys)
def fLen {α : Type} : List α → Nat → (Nat → Prop) → Prop
  | [], k, K => K k
  | _ :: xs, k, K => fLen xs (k + 1) K
def setF {α : Type} : List α → Nat → α → (List α → Prop) → Prop
  | [], _, _, K => K []
  | _ :: xs, 0, v, K => K (v :: xs)
  | x :: xs, n + 1, v, K => setF xs n v fun ys => K (x :: ys)
def fAV : AV → (AV → Prop) → Prop
  | .agg cs, K => fL cs fun cs => K (.agg cs)
  | .eptr cs, K => fL cs fun cs => K (.eptr cs)
  | .tup cs, K => fL cs fun cs => K (.tup cs)
  | .func f cs, K => fL cs fun cs => K (.func f cs)
  | .int k n, K => K (.int k n)
  | .bool b, K => K (.bool b)
  | .str b, K => K (.str b)
  | .ptr l o, K => K (.ptr l o)
  | .nilp, K => K .nilp
  | .slice es t, K => K (.slice es t)
  | .mapr l, K => K (.mapr l)
  | .nilFunc, K => K .nilFunc
  | .psl l z n, K => K (.psl l z n)
  | .flist ns, K => K (.flist ns)
  | .unk, K => K .unk
def fObj : AObj → (AObj → Prop) → Prop
  | .box cs, K => fL cs fun cs => K (.box cs)
  | .tip n, K => K (.tip n)
  | .mp es, K => K (.mp es)
  | .dead, K => K .dead
  | .arr z es, K => K (.arr z es)
  | .res, K => K .res
def wrF : List Wr → List AV → List AObj → (List AV → List AObj → Prop) → Prop
  | [], t, h, K => K t h
  | .slot n v :: ws, t, h, K => fAV v fun v => setF t n v fun t => wrF ws t h K
  | .obj n v :: ws, t, h, K => fObj v fun v => setF h n v fun h => wrF ws t h K
def mapF (t : List AV) : List Operand → (List AV → Prop) → Prop
  | [], K => K []
  | x :: xs, K => fAV (aev t x) fun v => mapF t xs fun vs => K (v :: vs)
def frN : Nat → Prop → Prop → Prop
  | 0, A, _ => A
  | _ + 1, _, B => B

theorem fL_eq {α : Type} : ∀ (l : List α) (K : List α → Prop), fL l K = K l := by
  intro l; induction l with
  | nil => intro K; rfl
  | cons x l ih => intro K; simp only [fL]; exact ih _
theorem fLen_eq {α : Type} : ∀ (l : List α) (k : Nat) (K : Nat → Prop), fLen l k K = K (k + l.length) := by
  intro l; induction l with
  | nil => intro k K; rfl
  | cons x l ih => intro k K; simp only [fLen]; rw [ih]; congr 1; simp; omega
theorem setF_eq {α : Type} : ∀ (l : List α) (n : Nat) (v : α) (K : List α → Prop), setF l n v K = K (l.set n v) := by
  intro l; induction l with
  | nil => intro n v K; rfl
  | cons x l ih => intro n v K; cases n with
    | zero => rfl
    | succ n => simp only [setF, List.set_cons_succ]; exact ih _ _ _
theorem fAV_eq (v : AV) (K : AV → Prop) : fAV v K = K v := by cases v <;> simp only [fAV, fL_eq]
theorem fObj_eq (v : AObj) (K : AObj → Prop) : fObj v K = K v := by cases v <;> simp only [fObj, fL_eq]
theorem wrF_eq : ∀ (ws : List Wr) (t : List AV) (h : List AObj) (K : List AV → List AObj → Prop), wrF ws t h K = K (ASt.wr ⟨t, h⟩ ws).tmps (ASt.wr ⟨t, h⟩ ws).heap := by
  intro ws; induction ws with
  | nil => intro t h K; rfl
  | cons w ws ih => intro t h K; cases w with
    | slot n v => simp only [wrF, fAV_eq, setF_eq]; rw [ih]; rfl
    | obj n v => simp only [wrF, fObj_eq, setF_eq]; rw [ih]; rfl
theorem mapF_eq (t : List AV) : ∀ (l : List Operand) (K : List AV → Prop), mapF t l K = K (l.map (aev t)) := by
  intro l; induction l with
  | nil => intro K; rfl
  | cons x l ih => intro K; simp only [mapF, fAV_eq, ih, List.map_cons]

def grdV (w : Bool) (d : Nat) (t : List AV) (A B : List AV → Prop) : AV → Prop
  | .bool b => onB b (setF t d (.bool true) fun t => onB w (A t) (B t)) (setF t d (.bool false) fun t => onB w (B t) (A t))
  | .tup [] => B t
  | _ => False
def grd (ops : List Oper) (t : List AV) (A B : List AV → Prop) : Option (Nat × Bool) → Prop
  | none => A t
  | some (j, w) => onO ((ops[j]?).bind (·.dst)) fun d => grdV w d t A B (t.getD d .unk)

theorem set_self {t : List AV} {d : Nat} {v : AV} (h : t.getD d .unk = v) : t.set d v = t := by
  apply List.ext_getElem?
  intro i
  rw [List.getElem?_set]
  split
  · rename_i he; subst he
    split
    · rename_i hl; rw [List.getD, List.getElem?_eq_getElem hl] at h; rw [List.getElem?_eq_getElem hl, ← h]; rfl
    · rename_i hl; rw [List.getElem?_eq_none (Nat.le_of_not_lt hl)]
  · rfl

theorem grd_sound {ops : List Oper} {t : List AV} {A B : List AV → Prop} {o : Oper} (h : grd ops t A B o.guard) : (awanted ops.toArray t o = some true ∧ A t) ∨ (awanted ops.toArray t o = some false ∧ B t) := by
  unfold awanted
  cases hg : o.guard with
  | none => rw [hg] at h; exact .inl ⟨rfl, h⟩
  | some p =>
    obtain ⟨j, w⟩ := p
    rw [hg] at h
    obtain ⟨d, h1, h2⟩ := onO_elim h
    simp only [List.getElem?_toArray, h1]
    unfold grdV at h2
    split at h2
    · rename_i b hb
      simp only [hb]
      rcases onB_elim h2 with ⟨rfl, g⟩ | ⟨rfl, g⟩
      · rw [setF_eq, set_self hb] at g
        rcases onB_elim g with ⟨rfl, g⟩ | ⟨rfl, g⟩
        · exact .inl ⟨rfl, g⟩
        · exact .inr ⟨rfl, g⟩
      · rw [setF_eq, set_self hb] at g
        rcases onB_elim g with ⟨rfl, g⟩ | ⟨rfl, g⟩
        · exact .inr ⟨rfl, g⟩
        · exact .inl ⟨rfl, g⟩
    · rename_i hb
      rw [hb]
      exact .inr ⟨rfl, h2⟩
    · exact h2.elim

/-- A call, by a contract. -/
def ACallF (P : Program) (f : Nat) (args : List AV) (dst : Option Tmp) (t : List AV) (h : List AObj) (k : Nat) (K : Nat → List Nat → List Wr → Prop) : Prop := ACallK P f args dst ⟨t, h⟩ k K .mk
def funF (K : Nat → List AV → Prop) : AV → Prop
  | .func f caps => K f caps
  | _ => False

def run (P : Program) (τ : Nat → TI) (ops : List Oper) : List Oper → Nat → List Eff → List AV → List AObj → (List Eff → List AV → List AObj → Prop) → Prop
  | [], _, es, t, h, K => K es.reverse t h
  | o :: l, k, es, t, h, K => grd ops t
      (fun t => match callOf o.op with
        | some (f, args) => funF (fun fid caps => mapF t args.toList fun vs => fL (vs ++ caps) fun vs => ACallF P fid vs o.dst t h k fun k' ro ws => wrF ws t h fun t' h' => run P τ ops l k' (⟨opSlots ops.toArray o, ro, ws⟩ :: es) t' h' K) (aev t f)
        | none => stepT τ k o.dst (aev t) (obj? h) (fun rd ws => wrF ws t h fun t' h' => frN (isAlloc o.op) (run P τ ops l k (⟨opSlots ops.toArray o, rd, ws⟩ :: es) t' h' K) (run P τ ops l (k + 1) (⟨opSlots ops.toArray o, rd, ws⟩ :: es) t' h' K)) o.op)
      (fun t => wrF (toDst o.dst (.tup [])) t h fun t' h' => run P τ ops l k (⟨opSlots ops.toArray o, [], toDst o.dst (.tup [])⟩ :: es) t' h' K) o.guard

theorem run_sound {P : Program} {ops : List Oper} : ∀ (l : List Oper) (k : Nat) (es : List Eff) (t : List AV) (h : List AObj) (K : List Eff → List AV → List AObj → Prop), run P (TI.of P) ops l k es t h K → ∃ es' s', ATr P ops.toArray l es' ⟨t, h⟩ s' ∧ K (es.reverse ++ es') s'.tmps s'.heap := by
  intro l
  induction l with
  | nil => intro k es t h K hr; exact ⟨[], ⟨t, h⟩, .nil _, by simpa [run] using hr⟩
  | cons o l ih =>
    intro k es t h K hr
    have fin : ∀ (e : Eff) (k' : Nat), AEff P ops.toArray o ⟨t, h⟩ e → (wrF e.ws t h fun t' h' => run P (TI.of P) ops l k' (e :: es) t' h' K) → ∃ es' s', ATr P ops.toArray (o :: l) es' ⟨t, h⟩ s' ∧ K (es.reverse ++ es') s'.tmps s'.heap := fun e k' he hw => by
      rw [wrF_eq] at hw
      obtain ⟨es', s', g1, g2⟩ := ih k' (e :: es) _ _ K hw
      exact ⟨e :: es', s', .cons he g1, by simpa using g2⟩
    simp only [run] at hr
    rcases grd_sound hr with ⟨hc, h1⟩ | ⟨hc, h2⟩
    · cases hcall : callOf o.op with
      | none =>
        rw [hcall] at h1
        obtain ⟨rd, ws, g1, g2⟩ := stepT_sound h1
        have g2 : ∃ k', wrF ws t h fun t' h' => run P (TI.of P) ops l k' (⟨opSlots ops.toArray o, rd, ws⟩ :: es) t' h' K := by
          cases hn : isAlloc o.op with
          | zero => simp only [hn, frN] at g2; exact ⟨_, g2⟩
          | succ m => simp only [hn, frN] at g2; exact ⟨_, g2⟩
        obtain ⟨k', g2⟩ := g2
        exact fin ⟨opSlots ops.toArray o, rd, ws⟩ k' (eff_heap (s := ⟨t, h⟩) hc g1) g2
      | some p =>
        obtain ⟨f, args⟩ := p
        rw [hcall] at h1
        simp only at h1
        unfold funF at h1
        split at h1
        · rename_i fid caps g1
          simp only [mapF_eq, fL_eq, ACallF] at h1
          obtain ⟨hok, ρ, ks, aargs, H, res, H', g2, g3, g4, g5, g6⟩ := h1
          obtain ⟨tt, ho⟩ := callOf_spec hcall
          exact fin _ _ (eff_call (s := ⟨t, h⟩) hc ho g1 hok g2 g3 g4 g5) g6
        · exact h1.elim
    · exact fin _ k (eff_skip (s := ⟨t, h⟩) hc) h2

/-- Room for what a region makes. -/
def resF : List Oper → (List AObj → Prop) → Prop
  | [], K => K []
  | o :: l, K => frN (isAlloc o.op) (resF l K) (resF l fun r => K (.res :: r))

theorem isAlloc_le (op : Op) : isAlloc op = 0 ∨ isAlloc op = 1 := by
  unfold isAlloc; split <;> simp

theorem resF_eq : ∀ (l : List Oper) (K : List AObj → Prop), resF l K → ∃ n, K (List.replicate n .res) := by
  intro l
  induction l with
  | nil => intro K h; exact ⟨0, h⟩
  | cons o l ih =>
    intro K h
    simp only [resF] at h
    rcases isAlloc_le o.op with e | e
    · rw [e] at h; exact ih K h
    · rw [e] at h
      obtain ⟨n, hn⟩ := ih _ h
      exact ⟨n + 1, hn⟩

def seqQ (next : List AV → List AObj → Prop) (Q : Exit → List AV → List AObj → Prop) : Exit → List AV → List AObj → Prop
  | .normal, t, h => next t h
  | e, t, h => Q e t h
def blkQ (id : Nat) (Q : Exit → List AV → List AObj → Prop) : Exit → List AV → List AObj → Prop
  | .exit id', t, h => onB (id' == id) (Q .normal t h) (Q (.exit id') t h)
  | e, t, h => Q e t h
def onS (Q : Exit → List AV → List AObj → Prop) : Exit → ASt → Prop := fun e s => Q e s.tmps s.heap
def LoopF (P : Program) (c : Code) (t : List AV) (h : List AObj) (Q : Exit → List AV → List AObj → Prop) : Prop := AWP P (.loop c) (onS Q) ⟨t, h⟩
def cndV (d : Nat) (t : List AV) (A B : List AV → Prop) : AV → Prop
  | .bool b => onB b (setF t d (.bool true) A) (setF t d (.bool false) B)
  | _ => False
def cndF (t : List AV) (A B : List AV → Prop) : Operand → Prop
  | .tmp d => cndV d t A B (t.getD d .unk)
  | .const (.bool b) => onB b (A t) (B t)
  | _ => False

def runC (P : Program) (τ : Nat → TI) : Code → List AV → List AObj → (Exit → List AV → List AObj → Prop) → Prop
  | .skip, t, h, Q => Q .normal t h
  | .ret, t, h, Q => Q .ret t h
  | .exit id, t, h, Q => Q (.exit id) t h
  | .seq a b, t, h, Q => runC P τ a t h (seqQ (fun t h => runC P τ b t h Q) Q)
  | .cond c a b, t, h, Q => cndF t (fun t => runC P τ a t h Q) (fun t => runC P τ b t h Q) c
  | .block id a, t, h, Q => runC P τ a t h (blkQ id Q)
  | .loop c, t, h, Q => LoopF P c t h Q
  | .region _ l dr, t, h, Q => resF l.toList fun r => fL (h ++ r) fun h' => fLen h 0 fun k => run P τ l.toList l.toList k [] t h' fun es t h => onB dr (okOrder l.toList es = true ∧ Q .normal t h) (Q .normal t h)
  | _, _, _, _ => False

theorem runC_sound {P : Program} (hm : P.follows .mixedOrders = true) : ∀ (c : Code) (t : List AV) (h : List AObj) (Q : Exit → List AV → List AObj → Prop), runC P (TI.of P) c t h Q → AWP P c (onS Q) ⟨t, h⟩ := by
  intro c
  induction c with
  | skip => intro t h Q hr; exact AWP.skip hr
  | ret => intro t h Q hr; exact AWP.ret hr
  | exit id => intro t h Q hr; exact AWP.exit hr
  | seq a b iha ihb =>
    intro t h Q hr
    refine AWP.seq ((iha _ _ _ hr).mono ?_)
    intro e s hq
    cases e <;> first | exact ihb _ _ _ hq | exact hq
  | cond c a b iha ihb =>
    intro t h Q hr
    simp only [runC] at hr
    unfold cndF at hr
    split at hr
    · rename_i d
      unfold cndV at hr
      split at hr
      · rename_i x hx
        refine AWP.cond (t := x) hx (fun e => ?_) (fun e => ?_)
        · rcases onB_elim hr with ⟨_, g⟩ | ⟨e2, g⟩
          · rw [setF_eq, set_self (by rw [hx, e])] at g; exact iha _ _ _ g
          · rw [e] at e2; cases e2
        · rcases onB_elim hr with ⟨e2, g⟩ | ⟨_, g⟩
          · rw [e] at e2; cases e2
          · rw [setF_eq, set_self (by rw [hx, e])] at g; exact ihb _ _ _ g
      · exact hr.elim
    · rename_i x
      refine AWP.cond (t := x) rfl (fun e => ?_) (fun e => ?_)
      · rcases onB_elim hr with ⟨_, g⟩ | ⟨e2, g⟩
        · exact iha _ _ _ g
        · rw [e] at e2; cases e2
      · rcases onB_elim hr with ⟨e2, g⟩ | ⟨_, g⟩
        · rw [e] at e2; cases e2
        · exact ihb _ _ _ g
    · exact hr.elim
  | block id a iha =>
    intro t h Q hr
    refine AWP.block ((iha _ _ _ hr).mono ?_)
    intro e s hq
    cases e with
    | exit id' =>
      rcases onB_elim hq with ⟨e, g⟩ | ⟨e, g⟩
      · simp only [inBlockA]; rw [if_pos (by simpa using e)]; exact g
      · simp only [inBlockA]; rw [if_neg (by simpa using e)]; exact g
    | _ => exact hq
  | loop c _ => intro t h Q hr; exact hr
  | region id l dr =>
    intro t h Q hr
    simp only [runC] at hr
    obtain ⟨n, hr⟩ := resF_eq _ _ hr
    simp only [fL_eq, fLen_eq] at hr
    obtain ⟨es, s', h1, h2⟩ := run_sound _ _ _ _ _ _ hr
    simp only [List.reverse_nil, List.nil_append] at h2
    have hl : l = l.toList.toArray := by simp
    rw [hl]
    rcases onB_elim h2 with ⟨rfl, g1, g2⟩ | ⟨rfl, g⟩
    · exact AWP.drawn (s := ⟨t, h⟩) n hm h1 g1 g2
    · exact AWP.region (s := ⟨t, h⟩) n h1.steps g
  | _ => intro t h Q hr; exact hr.elim

end Abs
end Go.Proofs.YtiiaccpcoclklaaGreat
namespace Go.Proofs.YtiiaccpcoclklaaGreat
namespace Abs
open Go

inductive Tr where
  | nil
  | node (l : Tr) (key : Nat) (x : TI) (r : Tr)

/-- A search tree by number. -/
def Tr.look (d : Nat → TI) (t : Nat) : Tr → TI
  | .nil => d t
  | .node l k x r => match Nat.ble t k with
    | true => match Nat.beq t k with
      | true => x
      | false => Tr.look d t l
    | false => Tr.look d t r

def Tr.keys : Tr → List Nat
  | .nil => []
  | .node l k _ r => l.keys ++ k :: r.keys
def Tr.vals : Tr → List TI
  | .nil => []
  | .node l _ x r => l.vals ++ x :: r.vals

theorem Tr.len : ∀ T : Tr, T.keys.length = T.vals.length
  | .nil => rfl
  | .node l k x r => by simp [keys, vals, Tr.len l, Tr.len r]

theorem Tr.look_eq (d : Nat → TI) (t : Nat) : ∀ T : Tr, T.keys.map d = T.vals → T.look d t = d t
  | .nil, _ => rfl
  | .node l k x r, h => by
    simp only [keys, vals, List.map_append, List.map_cons] at h
    have h1 := List.append_inj h (by simp [Tr.len l])
    obtain ⟨h1, h2⟩ := h1
    simp only [List.cons.injEq] at h2
    unfold Tr.look
    split
    · split
      · rename_i hb
        have : t = k := Nat.eq_of_beq_eq_true hb
        rw [this]; exact h2.1.symm
      · exact Tr.look_eq d t l h1
    · exact Tr.look_eq d t r h2.2

theorem tab_eq {P : Program} {T : Tr} (h : T.keys.map (TI.of P) = T.vals) : (fun t => T.look (TI.of P) t) = TI.of P := funext fun t => Tr.look_eq _ t T h

def resT (τ : Nat → TI) (t : List AV) (h : List AObj) : List ResultVar → (List AV → Prop) → Prop
  | [], K => K []
  | .tmp n :: r, K => fAV (t.getD n .unk) fun v => resT τ t h r fun vs => K (v :: vs)
  | .cell a ty :: r, K => match t.getD a .unk with
    | .ptr l off => match obj? h l with
      | .box cs => onO (loadT τ ty (cs.drop off)) fun v => fAV v fun v => resT τ t h r fun vs => K (v :: vs)
      | _ => False
    | _ => False

theorem resT_sound {P : Program} {t : List AV} {h : List AObj} : ∀ (rs : List ResultVar) (K : List AV → Prop), resT (TI.of P) t h rs K → ∃ xs, resA P ⟨t, h⟩ rs = some xs ∧ K xs := by
  intro rs
  induction rs with
  | nil => intro K hr; exact ⟨[], rfl, hr⟩
  | cons r rs ih =>
    intro K hr
    cases r with
    | tmp n =>
      simp only [resT, fAV_eq] at hr
      obtain ⟨xs, h1, h2⟩ := ih _ hr
      exact ⟨_, by simp only [resA, h1]; rfl, h2⟩
    | cell a ty =>
      simp only [resT] at hr
      split at hr
      · rename_i l off hp
        split at hr
        · rename_i cs hb
          obtain ⟨v, h1, h2⟩ := onO_elim hr
          rw [fAV_eq] at h2
          obtain ⟨xs, h3, h4⟩ := ih _ h2
          rw [loadT_eq] at h1
          exact ⟨_, by simp only [resA, hp, hb, h1, h3]; rfl, h4⟩
        · exact hr.elim
      · exact hr.elim

/-- What is handed back, as it stands at the end. -/
def Ends (v res : AV) : Prop := v = res
def resQ (τ : Nat → TI) (rs : List ResultVar) (res : AV) : Exit → List AV → List AObj → Prop
  | .normal, t, h => resT τ t h rs fun xs => fAV (resV true xs) fun v => Ends v res
  | .ret, t, h => resT τ t h rs fun xs => fAV (resV true xs) fun v => Ends v res
  | _, _, _ => False

def startF (n : Nat) (args : List AV) (K : List AV → Prop) : Prop := fL (args ++ List.replicate (n - args.length) (.tup [])) K

theorem pure_run {P : Program} {τ : Nat → TI} {f : Nat} {fn : Func} {c : Code} {args : List AV} {res : AV} (hτ : τ = TI.of P) (hm : P.follows .mixedOrders = true) (hf : P.funcs[f]? = some fn) (hb : fn.body = some c)
    (hlen : args.length ≤ fn.ntmps) (ha : ∀ g, args.map (ren g) = args) (hr : ∀ g, ren g res = res) (h : startF fn.ntmps args fun t => runC P τ c t [] (resQ τ fn.results.toList res)) : APure P f args res := by
  subst hτ
  refine apure_body ha hr hf hb hlen ?_
  unfold startF at h
  rw [fL_eq] at h
  refine (runC_sound hm _ _ _ _ h).mono ?_
  intro e s hq
  cases e with
  | normal =>
    obtain ⟨xs, h1, h2⟩ := resT_sound _ _ hq
    rw [fAV_eq] at h2
    exact ⟨xs, h1, h2⟩
  | ret =>
    obtain ⟨xs, h1, h2⟩ := resT_sound _ _ hq
    rw [fAV_eq] at h2
    exact ⟨xs, h1, h2⟩
  | _ => exact hq.elim

theorem ACallF.pure {P : Program} {f : Nat} {args : List AV} {dst : Option Tmp} {t : List AV} {h : List AObj} {k : Nat} {K : Nat → List Nat → List Wr → Prop} {res : AV} (hc : APure P f args res) (hok : okFn P f = true) (hK : K k [] (toDst dst res)) : ACallF P f args dst t h k K := ACallK.pure hc hok hK

/-- A loop of a walk: I is the relation, with a number that every round lowers. -/
theorem LoopF.intro {P : Program} {τ : Nat → TI} {c : Code} {t : List AV} {h : List AObj} {Q : Exit → List AV → List AObj → Prop} (hτ : τ = TI.of P) (hm : P.follows .mixedOrders = true) (I : Nat → List AV → List AObj → Prop) {n : Nat} (h0 : I n t h)
    (round : ∀ n t h, I n t h → runC P τ c t h (seqQ (fun t' h' => ∃ m, m < n ∧ I m t' h') Q)) : LoopF P c t h Q := by
  subst hτ
  refine AWP.loop (fun n s => I n s.tmps s.heap) h0 fun n s hI => (runC_sound hm _ _ _ _ (round n s.tmps s.heap hI)).mono ?_
  intro e s' hq
  cases e <;> exact hq
end Abs
end Go.Proofs.YtiiaccpcoclklaaGreat
namespace Go.Proofs.YtiiaccpcoclklaaGreat
namespace Abs
open Go

/-- A piece, then the rest. -/
theorem W.seq {P : Program} {τ : Nat → TI} {a b : Code} {t : List AV} {h : List AObj} {Q : Exit → List AV → List AObj → Prop}
    (hs : ∀ K : List AV → List AObj → Prop, (∀ t h, runC P τ b t h Q → K t h) → runC P τ a t h (seqQ K Q)) : runC P τ (.seq a b) t h Q := hs _ fun _ _ h => h
/-- A block. -/
theorem W.block {P : Program} {τ : Nat → TI} {id : Nat} {a : Code} {t : List AV} {h : List AObj} {Q : Exit → List AV → List AObj → Prop}
    (hs : ∀ R : Exit → List AV → List AObj → Prop, (∀ e t h, blkQ id Q e t h → R e t h) → runC P τ a t h R) : runC P τ (.block id a) t h Q := hs _ fun _ _ _ h => h
/-- The end of a body. -/
theorem W.start {P : Program} {τ : Nat → TI} {f : Nat} {fn : Func} {c : Code} {args : List AV} {res : AV} (hτ : τ = TI.of P) (hm : P.follows .mixedOrders = true) (hf : P.funcs[f]? = some fn) (hb : fn.body = some c)
    (hlen : args.length ≤ fn.ntmps) (ha : ∀ g, args.map (ren g) = args) (hr : ∀ g, ren g res = res)
    (h : ∀ Q : Exit → List AV → List AObj → Prop, (∀ e t h, resQ τ fn.results.toList res e t h → Q e t h) → ∀ t, startF fn.ntmps args (fun u => t = u) → runC P τ c t [] Q) : APure P f args res := by
  refine pure_run hτ hm hf hb hlen ha hr ?_
  unfold startF
  rw [fL_eq]
  exact h _ (fun _ _ _ h => h) _ (by unfold startF; rw [fL_eq])
end Abs
end Go.Proofs.YtiiaccpcoclklaaGreat
namespace Go.Proofs.YtiiaccpcoclklaaGreat
namespace Abs
open Go

abbrev QT := Exit → List AV → List AObj → Prop

/-- m: at least the number of objects at the entry. -/
def AW (P : Program) (m : Nat) (c : Code) (Q : QT) (t : List AV) (h : List AObj) : Prop :=
  ∀ (C : Ctx) (κ : Kap) (a : Act) (w : World), C.k0.length ≤ m → Sim C κ ⟨t, h⟩ a w → c.wp P (fun e a' w' => ∃ s' κ', onS Q e s' ∧ Sim C κ' s' a' w') a w

theorem AW.of {P : Program} {m : Nat} {c : Code} {Q : QT} {t : List AV} {h : List AObj} (hw : AWP P c (onS Q) ⟨t, h⟩) : AW P m c Q t h := fun C κ a w _ hs => hw C κ a w hs

theorem AW.mono {P : Program} {m : Nat} {c : Code} {Q Q' : QT} {t : List AV} {h : List AObj} (hw : AW P m c Q t h) (hq : ∀ e t h, Q e t h → Q' e t h) : AW P m c Q' t h :=
  fun C κ a w hk hs => wp_mono (hw C κ a w hk hs) fun _ _ _ ⟨s', κ', h1, h2⟩ => ⟨s', κ', hq _ _ _ h1, h2⟩

theorem AW.skip {P : Program} {m : Nat} {Q : QT} {t : List AV} {h : List AObj} (hq : Q .normal t h) : AW P m .skip Q t h := AW.of (AWP.skip hq)
theorem AW.ret {P : Program} {m : Nat} {Q : QT} {t : List AV} {h : List AObj} (hq : Q .ret t h) : AW P m .ret Q t h := AW.of (AWP.ret hq)
theorem AW.exit {P : Program} {m : Nat} {Q : QT} {t : List AV} {h : List AObj} {id : Nat} (hq : Q (.exit id) t h) : AW P m (.exit id) Q t h := AW.of (AWP.exit hq)

theorem AW.seq {P : Program} {m : Nat} {x y : Code} {Q : QT} {t : List AV} {h : List AObj} (hw : AW P m x (seqQ (AW P m y Q) Q) t h) : AW P m (.seq x y) Q t h := by
  intro C κ a w hk hs
  refine wp_seq (wp_mono (hw C κ a w hk hs) ?_)
  rintro e a' w' ⟨s', κ', h1, h2⟩
  cases e with
  | normal => exact h1 C κ' a' w' hk h2
  | exit id => exact ⟨s', κ', h1, h2⟩
  | goto l => exact ⟨s', κ', h1, h2⟩
  | ret => exact ⟨s', κ', h1, h2⟩
  | panic c => exact ⟨s', κ', h1, h2⟩
  | outgrown => exact ⟨s', κ', h1, h2⟩

/-- A piece, then the rest, which is hidden behind a variable. -/
theorem AW.seqK {P : Program} {m : Nat} {x y : Code} {Q : QT} {t : List AV} {h : List AObj} (hw : ∀ K : List AV → List AObj → Prop, (∀ t h, AW P m y Q t h → K t h) → AW P m x (seqQ K Q) t h) : AW P m (.seq x y) Q t h :=
  AW.seq (hw _ fun _ _ h => h)

theorem AW.cond {P : Program} {m : Nat} {c : Operand} {x y : Code} {Q : QT} {t : List AV} {h : List AObj} {b : Bool} (hc : aev t c = .bool b) (h1 : b = true → AW P m x Q t h) (h2 : b = false → AW P m y Q t h) : AW P m (.cond c x y) Q t h := by
  intro C κ a w hk hs
  have hr := hs.ev c
  have : aev (ASt.mk t h).tmps c = .bool b := hc
  rw [this] at hr
  exact wp_cond_split hr.bool_inv (fun ht => h1 ht C κ a w hk hs) (fun ht => h2 ht C κ a w hk hs)

theorem AW.block {P : Program} {m id : Nat} {c : Code} {Q : QT} {t : List AV} {h : List AObj} (hw : AW P m c (blkQ id Q) t h) : AW P m (.block id c) Q t h := by
  intro C κ a w hk hs
  refine wp_block (wp_mono (hw C κ a w hk hs) ?_)
  rintro e a' w' ⟨s', κ', h1, h2⟩
  cases e with
  | exit id' =>
    simp only [Exit.inBlock]
    rcases onB_elim h1 with ⟨e, g⟩ | ⟨e, g⟩
    · rw [if_pos (by simpa using e)]; exact ⟨s', κ', g, h2⟩
    · rw [if_neg (by simpa using e)]; exact ⟨s', κ', g, h2⟩
  | normal => exact ⟨s', κ', h1, h2⟩
  | goto l => exact ⟨s', κ', h1, h2⟩
  | ret => exact ⟨s', κ', h1, h2⟩
  | panic c => exact ⟨s', κ', h1, h2⟩
  | outgrown => exact ⟨s', κ', h1, h2⟩

theorem AW.loop {P : Program} {m : Nat} {c : Code} {Q : QT} {t : List AV} {h : List AObj} (I : Nat → List AV → List AObj → Prop) {n : Nat} (h0 : I n t h) (round : ∀ n t h, I n t h → AW P m c (seqQ (fun t' h' => ∃ k, k < n ∧ I k t' h') Q) t h) : AW P m (.loop c) Q t h := by
  intro C κ a w hk hs
  refine wp_loop_ghost (Q := fun e a' w' => ∃ s' κ', onS Q e s' ∧ Sim C κ' s' a' w') (fun n a w => ∃ s κ, I n s.tmps s.heap ∧ Sim C κ s a w) n ⟨⟨t, h⟩, κ, h0, hs⟩ ?_
  rintro n a w ⟨s, κ, hI, hs⟩
  refine wp_mono (round n s.tmps s.heap hI C κ a w hk hs) ?_
  rintro e a' w' ⟨s', κ', h1, h2⟩
  cases e with
  | normal =>
    obtain ⟨m, hm, hI'⟩ := h1
    exact ⟨m, hm, s', κ', hI', h2⟩
  | exit id => exact ⟨s', κ', h1, h2⟩
  | goto l => exact ⟨s', κ', h1, h2⟩
  | ret => exact ⟨s', κ', h1, h2⟩
  | panic c => exact ⟨s', κ', h1, h2⟩
  | outgrown => exact ⟨s', κ', h1, h2⟩

/-! ### What is known of values -/

def VF : AV → Prop
  | .int k n => wfInt k n
  | .str s => s.length ≤ 9223372036854775807
  | .slice es _ => es.length ≤ 9223372036854775807
  | .psl _ _ n => n ≤ 140737488355328
  | _ => True

theorem Rel.vf {w : World} {κ : Kap} {pv : Prv} {x : AV} {v : Value} (h : Rel w κ pv x v) : VF x := by
  cases h <;> first | trivial | assumption

/-- The cells of a value. -/
def parts : AV → List AV
  | .agg cs => cs
  | .tup cs => cs
  | .eptr cs => cs
  | .func _ cs => cs
  | v => [v]

theorem Rel.parts {w : World} {κ : Kap} {pv : Prv} {x : AV} {v : Value} (h : Rel w κ pv x v) (j : Nat) : VF ((Abs.parts x).getD j .unk) := by
  have key : ∀ cs : List AV, (∀ i, i < cs.length → VF (cs.getD i .unk)) → VF (cs.getD j .unk) := fun cs hc => by
    by_cases hj : j < cs.length
    · exact hc j hj
    · rw [List.getD, List.getElem?_eq_none (Nat.le_of_not_lt hj)]; trivial
  cases h with
  | agg h1 h2 => exact key _ fun i hi => (h2 i hi).vf
  | tup h1 h2 => exact key _ fun i hi => (h2 i hi).vf
  | func h1 h2 => exact key _ fun i hi => (h2 i hi).vf
  | eptr u h1 h2 h3 => exact key _ fun i hi => (h3 i hi).vf
  | unk v => exact key [.unk] fun i hi => by simp at hi; subst hi; trivial
  | int g => exact key [_] fun i hi => by simp at hi; subst hi; exact g
  | bool b => exact key [_] fun i hi => by simp at hi; subst hi; trivial
  | str g => exact key [_] fun i hi => by simp at hi; subst hi; exact g
  | nilp => exact key [_] fun i hi => by simp at hi; subst hi; trivial
  | ptr _ => exact key [_] fun i hi => by simp at hi; subst hi; trivial
  | mapr _ => exact key [_] fun i hi => by simp at hi; subst hi; trivial
  | nilFunc => exact key [_] fun i hi => by simp at hi; subst hi; trivial
  | psl _ g _ => exact key [_] fun i hi => by simp at hi; subst hi; exact g
  | flnil => exact key [_] fun i hi => by simp at hi; subst hi; trivial
  | flcons _ _ _ _ _ _ _ => exact key [_] fun i hi => by simp at hi; subst hi; trivial
  | slice b off sz u h1 h2 h3 h3' _ _ _ _ => exact key [_] fun i hi => by simp at hi; subst hi; exact h3'

/-- What is known of a slot's cell j. -/
theorem AW.know {P : Program} {m : Nat} {c : Code} {Q : QT} {t : List AV} {h : List AObj} (n j : Nat) (hw : VF ((parts (t.getD n .unk)).getD j .unk) → AW P m c Q t h) : AW P m c Q t h := by
  intro C κ a w hk hs
  refine hw ?_ C κ a w hk hs
  by_cases hn : n < t.length
  · exact (hs.slot n hn).parts j
  · have : t.getD n .unk = .unk := by rw [List.getD, List.getElem?_eq_none (Nat.le_of_not_lt hn)]; rfl
    rw [this]
    cases j with
    | zero => trivial
    | succ j => trivial

/-- What is known of a box's cell j. -/
theorem AW.knowB {P : Program} {m : Nat} {c : Code} {Q : QT} {t : List AV} {h : List AObj} (l j : Nat) (hw : VF (((match obj? h l with | .box cs => cs | _ => []) : List AV).getD j .unk) → AW P m c Q t h) (hn : ∃ n o, t.getD n .unk = .ptr l o) : AW P m c Q t h := by
  intro C κ a w hk hs
  refine hw ?_ C κ a w hk hs
  obtain ⟨n, o, hn⟩ := hn
  have hr := hs.ev (.tmp n)
  simp only [aev] at hr
  have e : (ASt.mk t h).tmps.getD n .unk = .ptr l o := hn
  rw [e] at hr
  obtain ⟨b, _, hb⟩ := hr.ptr_inv
  split
  · rename_i cs ho
    obtain ⟨c, el, g1, g2, g3, g4⟩ := hs.box hb ho
    by_cases hj : j < cs.length
    · exact (g4 j hj).vf
    · rw [List.getD, List.getElem?_eq_none (Nat.le_of_not_lt hj)]; trivial
  · rw [List.getD]; trivial

end Abs
end Go.Proofs.YtiiaccpcoclklaaGreat
namespace Go.Proofs.YtiiaccpcoclklaaGreat
namespace Abs
open Go

/-- L: for each object of the new state, which one it was (none: nothing yet). -/
def nmO (L : List (Option Nat)) (big i : Nat) : Nat := ((L[i]?).getD none).getD big

/-- The new value on the left, the old one on the right. -/
inductive VW (h : List AObj) (L : List (Option Nat)) : AV → AV → Prop where
  | unk (v : AV) : VW h L .unk v
  | same {x y : AV} : ren (nmO L h.length) x = y → VW h L x y
  | share {es es' : List (List AV)} {t : Tag} : renLL (nmO L h.length) es = es' → VW h L (.slice es .shared) (.slice es' t)
  | nils (j z : Nat) : VW h L (.slice [] (.tip j z)) (.slice [] .nils)
  | nilF : VW h L (.flist []) .nilp
  | frzF {l : Nat} {cs cs' : List AV} {r : List (List AV)} {v : AV} : obj? h l = .box (cs' ++ [v]) → some l ∉ L → cs.length = cs'.length → (∀ j, j < cs.length → VW h L (cs.getD j .unk) (cs'.getD j .unk)) → VW h L (.flist r) v → VW h L (.flist (cs :: r)) (.ptr l 0)
  | nilP (j z : Nat) : VW h L (.psl j z 0) (.slice [] .nils)
  | frzP {l z n : Nat} {es es0 : List (List AV)} : obj? h l = .arr z es0 → some l ∉ L → n ≤ es0.length → renLL (nmO L h.length) es = es0.take n → VW h L (.slice es .shared) (.psl l z n)
  | agg {cs cs' : List AV} : cs.length = cs'.length → (∀ j, VW h L (cs.getD j .unk) (cs'.getD j .unk)) → VW h L (.agg cs) (.agg cs')
  | tup {cs cs' : List AV} : cs.length = cs'.length → (∀ j, VW h L (cs.getD j .unk) (cs'.getD j .unk)) → VW h L (.tup cs) (.tup cs')
  | func {f : Nat} {cs cs' : List AV} : cs.length = cs'.length → (∀ j, VW h L (cs.getD j .unk) (cs'.getD j .unk)) → VW h L (.func f cs) (.func f cs')
  | frz {l off : Nat} {cs cs' : List AV} : obj? h l = .box cs' → some l ∉ L → cs.length + off ≤ cs'.length → (∀ j, VW h L (cs.getD j .unk) (cs'.getD (off + j) .unk)) → VW h L (.eptr cs) (.ptr l off)

inductive OW (h : List AObj) (L : List (Option Nat)) : AObj → AObj → Prop where
  | dead (o : AObj) : OW h L .dead o
  | box {cs cs' : List AV} : cs.length = cs'.length → (∀ j, VW h L (cs.getD j .unk) (cs'.getD j .unk)) → OW h L (.box cs) (.box cs')
  | tip (n : Nat) : OW h L (.tip n) (.tip n)
  | arr {z n : Nat} {es es0 : List (List AV)} : renLL (nmO L h.length) es = es0.take n → OW h L (.arr z es) (.arr z es0)
  | same {o o' : AObj} : isRes o = false → renO (nmO L h.length) o = o' → OW h L o o'

structure Weak (m : Nat) (t : List AV) (h : List AObj) (L : List (Option Nat)) (t' : List AV) (h' : List AObj) : Prop where
  tlen : t'.length = t.length
  hlen : L.length = h'.length
  idm : ∀ i : Nat, i < m → L[i]? = some (some i)
  inj : ∀ i j l : Nat, L[i]? = some (some l) → L[j]? = some (some l) → live (obj? h' i) → live (obj? h' j) → i = j
  lt : ∀ i l : Nat, L[i]? = some (some l) → l < h.length
  slot : ∀ n, VW h L (t'.getD n .unk) (t.getD n .unk)
  obj : ∀ i l : Nat, L[i]? = some (some l) → OW h L (obj? h' i) (obj? h l)
  new : ∀ i : Nat, L[i]? = some none → isRes (obj? h' i) = false

section
variable {C : Ctx} {κ : Kap} {t : List AV} {h : List AObj} {a : Act} {w : World} {m : Nat} {L : List (Option Nat)} {t' : List AV} {h' : List AObj}

def kapW (κ : Kap) (L : List (Option Nat)) : Kap := L.map fun o => o.bind (at? κ)

theorem at?_kapW {i : Nat} (hk : κ.length = h.length) : at? (kapW κ L) i = at? κ (nmO L h.length i) := by
  unfold kapW nmO
  simp only [at?, List.getElem?_map]
  cases hi : L[i]? with
  | none => simp [List.getElem?_eq_none (show κ.length ≤ h.length by omega)]
  | some o => cases o with
    | none => simp [List.getElem?_eq_none (show κ.length ≤ h.length by omega)]
    | some l => simp [at?]

theorem kapW_some {i b : Nat} (hb : at? (kapW κ L) i = some b) : ∃ l, L[i]? = some (some l) ∧ at? κ l = some b := by
  unfold kapW at hb
  simp only [at?, List.getElem?_map] at hb
  cases hi : L[i]? with
  | none => rw [hi] at hb; cases hb
  | some o => cases o with
    | none => rw [hi] at hb; cases hb
    | some l => rw [hi] at hb; exact ⟨l, rfl, hb⟩

theorem OW.live {o o' : AObj} (hw : OW h L o o') (hl : live o) : live o' := by
  cases hw with
  | dead _ => exact hl.elim
  | box _ _ => trivial
  | tip _ => trivial
  | arr _ => trivial
  | same _ e => rw [← e, live_ren]; exact hl

theorem OW.pv {o o' : AObj} {n : Nat} (hw : OW h L o o') (hp : objPv o n) : objPv o' n := by
  cases hw with
  | dead _ => exact hp.elim
  | box _ _ => trivial
  | tip _ => exact hp
  | arr _ => trivial
  | same _ e => rw [← e, objPv_ren]; exact hp

theorem Weak.pv (hs : Sim C κ ⟨t, h⟩ a w) (hw : Weak m t h L t' h') {b o : Nat} (hp : pvOf C.pv0 (kapW κ L) h' b o) : pvOf C.pv0 κ h b o := by
  rcases hp with hp | ⟨i, h1, h2⟩
  · exact .inl hp
  · obtain ⟨l, hl, hb⟩ := kapW_some h1
    exact .inr ⟨l, hb, (hw.obj i l hl).pv h2⟩

/-- Values. -/
theorem Weak.val (hs : Sim C κ ⟨t, h⟩ a w) (hw : Weak m t h L t' h') {x y : AV} (hv : VW h L x y) : ∀ {u : Value}, Rel w κ (pvOf C.pv0 κ h) y u → Rel w (kapW κ L) (pvOf C.pv0 (kapW κ L) h') x u := by
  have hat : ∀ i, at? (kapW κ L) i = at? κ (nmO L h.length i) := fun i => at?_kapW hs.klen
  have key : ∀ (x : AV) {u : Value}, Rel w κ (pvOf C.pv0 κ h) (ren (nmO L h.length) x) u → Rel w (kapW κ L) (pvOf C.pv0 (kapW κ L) h') x u := fun x u hx =>
    (hx.unren hat _ rfl).mono (Evo.refl _ _) (KExt.refl _) fun b o hp _ => hw.pv hs hp
  induction hv with
  | unk v => intro u _; exact .unk u
  | same e => intro u hu; rw [← e] at hu; exact key _ hu
  | share e => intro u hu; rw [← e] at hu; exact key (.slice _ .shared) hu.share
  | nils j z =>
    intro u hu
    cases hu with
    | slice b off sz y g1 g2 g3 g3' g4 g5 g6 gt =>
      exact .slice (es := []) (tag := .tip j z) b off z y (fun i hi => by cases hi) (fun hne => (hne rfl).elim) g3 g3' (fun i j hi => by cases hi) (fun i j hi => by cases hi) (fun i j hi => by cases hi) ⟨rfl, .inl gt⟩
  | nilF => intro u hu; cases hu; exact .flnil
  | @frzF l cs cs' r v ho hn hl _ _ ih1 ih2 =>
    intro u hu
    obtain ⟨b, e, hb⟩ := hu.ptr_inv
    subst e
    obtain ⟨c, el, g1, g2, g3, g4⟩ := hs.box hb ho
    have hlen : (cs' ++ [v]).length = cs.length + 1 := by simp [hl]
    have hlive : live (obj? h l) := by rw [ho]; trivial
    refine .flcons (fun j => c.getD j undef) (c.getD cs.length undef) (fun j hj hp => ?_) (fun j hj => by rw [Nat.zero_add]; exact g3 j (by omega)) (by rw [Nat.zero_add]; exact g3 _ (by omega)) (fun j hj => ih1 j hj ?_) (ih2 ?_)
    · rcases hp with hp | ⟨i, h1, h2⟩
      · exact hs.own l b hb hlive (hs.pvold _ _ hp)
      · obtain ⟨l', hl', hb'⟩ := kapW_some h1
        have := hs.apart l l' b hb hb' hlive (live_of_pv ((hw.obj i l' hl').pv h2))
        subst this
        exact hn (List.mem_of_getElem? hl')
    · have := g4 j (by omega)
      have e2 : (cs' ++ [v]).getD j .unk = cs'.getD j .unk := by simp [List.getD, List.getElem?_append_left (show j < cs'.length by omega)]
      rw [e2] at this; exact this
    · have := g4 cs.length (by omega)
      have e2 : (cs' ++ [v]).getD cs.length .unk = v := by rw [hl]; simp [List.getD]
      rw [e2] at this; exact this
  | nilP j z =>
    intro u hu
    cases hu with
    | slice b off sz y g1 g2 g3 g3' g4 g5 g6 gt =>
      exact .psl (Nat.zero_le _) (by omega) ⟨rfl, .inl gt⟩
  | @frzP l z n es es0 ho hn hle he =>
    intro u hu
    cases hu with
    | @psl _ _ _ cap ad g1 g2 g3 =>
      have hlen : es.length = n := by
        have := congrArg List.length he
        rw [renLL_len, List.length_take] at this; omega
      have hget : ∀ i, i < n → renL (nmO L h.length) (es.getD i []) = es0.getD i [] := fun i hi => by
        rw [← renLL_getD, he]
        simp only [List.getD, List.getElem?_take, if_pos hi]
      obtain ⟨_, ht⟩ := g3
      rcases ht with ⟨rfl, rfl⟩ | ⟨b, c, e, t1, rfl, t3, t4⟩
      · have : es = [] := List.length_eq_zero_iff.1 (by omega)
        subst this
        have hn0 : n = 0 := by simpa using hlen.symm
        subst hn0
        exact .slice (es := []) 0 0 z (fun _ _ => undef) (fun i h => by cases h) (fun h => (h rfl).elim) (Nat.zero_le _) (by simp) (fun i j h => by cases h) (fun i j h => by cases h) (fun i j h => by cases h) trivial
      · have hlive : live (obj? h l) := by rw [ho]; trivial
        have hob := hs.obj l b t1 hlive
        change ObjRel w κ (pvOf C.pv0 κ h) b (obj? h l) at hob
        rw [ho] at hob
        obtain ⟨c0, e0, q1, q2, q3, q4⟩ := hob
        rw [t3] at q1; cases q1
        rw [← hlen] at g1 g2 ⊢
        refine .slice b 0 z (fun i j => c.getD (i * z + j) undef) ?_ (fun _ => rfl) g1 (by omega) ?_ ?_ ?_ trivial
        · intro i hi
          have h5 := hget i (by omega)
          have h6 := q3 i (by omega)
          rw [← h5, renL_len] at h6; exact h6
        · rintro i j hi hj (hp | ⟨i', h1, h2⟩)
          · exact hs.own l b t1 hlive (hs.pvold _ _ hp)
          · obtain ⟨l', hl', hb'⟩ := kapW_some h1
            have := hs.apart l l' b t1 hb' hlive (live_of_pv ((hw.obj i' l' hl').pv h2))
            subst this
            exact hn (List.mem_of_getElem? hl')
        · intro i j hi hj
          have h2 : i * z + j < c.size := Nat.lt_of_lt_of_le (idx_lt (show i < es0.length by omega) hj) q2
          simp [World.cell?, t3, Array.getD, h2]
        · intro i j hi hj
          have h5 := hget i (by omega)
          refine key _ ?_
          rw [← renL_getD, h5]
          exact q4 i j (by omega) hj
  | agg hl _ ih =>
    intro u hu
    obtain ⟨vs, e, g1, g2⟩ := hu.agg_inv
    subst e
    exact .agg (g1.trans hl.symm) fun j hj => ih j (g2 j (by omega))
  | tup hl _ ih =>
    intro u hu
    obtain ⟨vs, e, g1, g2⟩ := hu.tup_inv
    subst e
    exact .tup (g1.trans hl.symm) fun j hj => ih j (g2 j (by omega))
  | func hl _ ih =>
    intro u hu
    obtain ⟨vs, e, g1, g2⟩ := hu.func_inv
    subst e
    exact .func (g1.trans hl.symm) fun j hj => ih j (g2 j (by omega))
  | @frz l off cs cs' ho hn hl _ ih =>
    intro u hu
    obtain ⟨b, e, hb⟩ := hu.ptr_inv
    subst e
    obtain ⟨c, el, g1, g2, g3, g4⟩ := hs.box hb ho
    refine .eptr (fun j => c.getD (off + j) undef) (fun j hj hp => ?_) (fun j hj => g3 _ (by omega)) fun j hj => ih j (g4 _ (by omega))
    have hlive : live (obj? h l) := by rw [ho]; trivial
    rcases hp with hp | ⟨i, h1, h2⟩
    · exact hs.own l b hb hlive (hs.pvold _ _ hp)
    · obtain ⟨l', hl', hb'⟩ := kapW_some h1
      have := hs.apart l l' b hb hb' hlive (live_of_pv ((hw.obj i l' hl').pv h2))
      subst this
      exact hn (List.mem_of_getElem? hl')

theorem Weak.sim (hk : C.k0.length ≤ m) (hs : Sim C κ ⟨t, h⟩ a w) (hw : Weak m t h L t' h') : Sim C (kapW κ L) ⟨t', h'⟩ a w := by
  have hat : ∀ i, at? (kapW κ L) i = at? κ (nmO L h.length i) := fun i => at?_kapW hs.klen
  refine ⟨hs.defers, hs.len.trans hw.tlen.symm, ?_, by simp [kapW, hw.hlen], ?_, ?_, ?_, ?_, ?_, ?_, hs.pvold, hs.oldlt, hs.old, hs.os, hs.tape, hs.output, hs.size, fun b o hp hlt => hs.pvsub b o (hw.pv hs hp) hlt, hs.evo⟩
  · intro n hn
    exact hw.val hs (hw.slot n) (hs.slot n (by rw [← hw.tlen]; exact hn))
  · intro l b hb
    have hlt := lt_of_at? hb
    have := hw.idm l (by omega)
    rw [hat]; simp only [nmO, this, Option.getD_some]
    exact hs.kext l b hb
  · intro i hi
    cases hL : L[i]? with
    | none => rw [hat]; simp only [nmO, hL, Option.getD_none]; exact at?_none_of_le (by rw [hs.klen]; exact Nat.le_refl _)
    | some o => cases o with
      | none => rw [hat]; simp only [nmO, hL, Option.getD_none, Option.getD_some]; exact at?_none_of_le (by rw [hs.klen]; exact Nat.le_refl _)
      | some l =>
        exfalso
        have := hw.obj i l hL
        change obj? h' i = .res at hi
        rw [hi] at this
        cases this with
        | same h1 _ => cases h1
  · intro i b hb hl
    obtain ⟨l, hL, hb'⟩ := kapW_some hb
    have ho := hw.obj i l hL
    have hr := hs.obj l b hb' (ho.live hl)
    change ObjRel w (kapW κ L) (pvOf C.pv0 (kapW κ L) h') b (obj? h' i)
    change live (obj? h' i) at hl
    generalize he : obj? h' i = o at *
    generalize he2 : obj? h l = o2 at *
    cases ho with
    | dead _ => exact hl.elim
    | box e hv =>
      obtain ⟨c, e', g1, g2, g3⟩ := hr
      exact ⟨c, e', g1, g2.trans e.symm, fun j hj => hw.val hs (hv j) (g3 j (by omega))⟩
    | tip n =>
      exact hr
    | @arr z n es es0 e =>
      obtain ⟨c, e', g1, g2, g3, g4⟩ := hr
      have hlen : es.length ≤ es0.length ∧ es.length ≤ n := by
        have := congrArg List.length e
        rw [renLL_len, List.length_take] at this; omega
      have hget : ∀ i, i < es.length → renL (nmO L h.length) (es.getD i []) = es0.getD i [] := fun i hi => by
        rw [← renLL_getD, e]
        simp only [List.getD, List.getElem?_take, if_pos (show i < n by omega)]
      refine ⟨c, e', g1, Nat.le_trans (Nat.mul_le_mul_right _ hlen.1) g2, fun i hi => ?_, fun i j hi hj => ?_⟩
      · have h6 := g3 i (by omega)
        rw [← hget i hi, renL_len] at h6; exact h6
      · refine hw.val hs (.same rfl) ?_
        rw [← renL_getD, hget i hi]
        exact g4 i j (by omega) hj
    | same _ e =>
      rw [← e] at hr
      exact (hr.unren hat).mono rfl (Evo.refl _ _) (KExt.refl _) fun b o hp _ => hw.pv hs hp
  · intro i j b h1 h2 h3 h4
    obtain ⟨l, hL, hb⟩ := kapW_some h1
    obtain ⟨l', hL', hb'⟩ := kapW_some h2
    have := hs.apart l l' b hb hb' ((hw.obj i l hL).live h3) ((hw.obj j l' hL').live h4)
    subst this
    exact hw.inj i j l hL hL' h3 h4
  · intro i b h1 h2
    obtain ⟨l, hL, hb⟩ := kapW_some h1
    exact hs.own l b hb ((hw.obj i l hL).live h2)
  · intro i b h1
    obtain ⟨l, _, hb⟩ := kapW_some h1
    exact hs.bound l b hb

end

/-- The state may be weakened. -/
theorem AW.weak {P : Program} {m : Nat} {c : Code} {Q : QT} {t t' : List AV} {h h' : List AObj} (L : List (Option Nat)) (hw : Weak m t h L t' h') (hc : AW P m c Q t' h') : AW P m c Q t h :=
  fun C κ a w hk hs => hc C _ a w hk (hw.sim hk hs)

/-- What the first state stands for, the second one stands for. -/
def Le (m : Nat) (t : List AV) (h : List AObj) (t' : List AV) (h' : List AObj) : Prop :=
  ∀ (C : Ctx) (κ : Kap) (a : Act) (w : World), C.k0.length ≤ m → Sim C κ ⟨t, h⟩ a w → ∃ κ', Sim C κ' ⟨t', h'⟩ a w
theorem Le.of {m : Nat} {t t' : List AV} {h h' : List AObj} (L : List (Option Nat)) (hw : Weak m t h L t' h') : Le m t h t' h' := fun _ _ _ _ hk hs => ⟨_, hw.sim hk hs⟩
theorem Le.trans {m : Nat} {t t' t'' : List AV} {h h' h'' : List AObj} (h1 : Le m t h t' h') (h2 : Le m t' h' t'' h'') : Le m t h t'' h'' := fun C κ a w hk hs => by
  obtain ⟨κ', hs'⟩ := h1 C κ a w hk hs
  exact h2 C κ' a w hk hs'
theorem AW.le {P : Program} {m : Nat} {c : Code} {Q : QT} {t t' : List AV} {h h' : List AObj} (hl : Le m t h t' h') (hc : AW P m c Q t' h') : AW P m c Q t h := fun C κ a w hk hs => by
  obtain ⟨κ', hs'⟩ := hl C κ a w hk hs
  exact hc C κ' a w hk hs'

/-! ### The same, list by list -/

inductive VWs (h : List AObj) (L : List (Option Nat)) : List AV → List AV → Prop where
  | nil : VWs h L [] []
  | cons {x y : AV} {xs ys : List AV} : VW h L x y → VWs h L xs ys → VWs h L (x :: xs) (y :: ys)

theorem VWs.len {h : List AObj} {L : List (Option Nat)} {xs ys : List AV} (hv : VWs h L xs ys) : xs.length = ys.length := by
  induction hv with
  | nil => rfl
  | cons _ _ ih => simp [ih]
theorem VWs.get {h : List AObj} {L : List (Option Nat)} {xs ys : List AV} (hv : VWs h L xs ys) : ∀ j, VW h L (xs.getD j .unk) (ys.getD j .unk) := by
  induction hv with
  | nil => intro j; exact .unk _
  | cons h1 _ ih => intro j; cases j with
    | zero => exact h1
    | succ j => exact ih j

theorem VW.agg' {h : List AObj} {L : List (Option Nat)} {xs ys : List AV} (hv : VWs h L xs ys) : VW h L (.agg xs) (.agg ys) := .agg hv.len hv.get
theorem VW.tup' {h : List AObj} {L : List (Option Nat)} {xs ys : List AV} (hv : VWs h L xs ys) : VW h L (.tup xs) (.tup ys) := .tup hv.len hv.get
theorem VW.func' {h : List AObj} {L : List (Option Nat)} {f : Nat} {xs ys : List AV} (hv : VWs h L xs ys) : VW h L (.func f xs) (.func f ys) := .func hv.len hv.get
theorem VW.tipS {h : List AObj} {L : List (Option Nat)} {es : List (List AV)} {j l z : Nat} (hr : renLL (nmO L h.length) es = es) (hj : nmO L h.length j = l) : VW h L (.slice es (.tip j z)) (.slice es (.tip l z)) := .same (by simp only [ren, renT, hr, hj])
/-- A whole box is frozen. -/
theorem VW.frz0 {h : List AObj} {L : List (Option Nat)} {l : Nat} {xs ys : List AV} (ho : obj? h l = .box ys) (hn : L.contains (some l) = false) (hv : VWs h L xs ys) : VW h L (.eptr xs) (.ptr l 0) :=
  .frz ho (fun hm => by simp [hm] at hn) (by rw [hv.len]; omega) fun j => by rw [Nat.zero_add]; exact hv.get j
theorem VW.frzF' {h : List AObj} {L : List (Option Nat)} {l : Nat} {cs cs' : List AV} {r : List (List AV)} {v : AV} (ho : obj? h l = .box (cs' ++ [v])) (hn : L.contains (some l) = false) (hv : VWs h L cs cs') (hr : VW h L (.flist r) v) : VW h L (.flist (cs :: r)) (.ptr l 0) :=
  .frzF ho (fun hm => by simp [hm] at hn) hv.len (fun j _ => hv.get j) hr
theorem OW.box' {h : List AObj} {L : List (Option Nat)} {xs ys : List AV} (hv : VWs h L xs ys) : OW h L (.box xs) (.box ys) := .box hv.len hv.get

inductive OWs (h : List AObj) (L : List (Option Nat)) : List (Option Nat) → List AObj → Prop where
  | nil : OWs h L [] []
  | old {l : Nat} {o : AObj} {ls : List (Option Nat)} {os : List AObj} : OW h L o (obj? h l) → OWs h L ls os → OWs h L (some l :: ls) (o :: os)
  | new {o : AObj} {ls : List (Option Nat)} {os : List AObj} : isRes o = false → OWs h L ls os → OWs h L (none :: ls) (o :: os)

theorem OWs.len {h : List AObj} {L ls : List (Option Nat)} {os : List AObj} (hv : OWs h L ls os) : ls.length = os.length := by
  induction hv with
  | nil => rfl
  | old _ _ ih => simp [ih]
  | new _ _ ih => simp [ih]
theorem OWs.get {h : List AObj} {L ls : List (Option Nat)} {os : List AObj} (hv : OWs h L ls os) : ∀ i l, ls[i]? = some (some l) → OW h L (obj? os i) (obj? h l) := by
  induction hv with
  | nil => intro i l hi; simp at hi
  | old h1 _ ih => intro i l hi; cases i with
    | zero => simp at hi; subst hi; exact h1
    | succ i => exact ih i l (by simpa using hi)
  | new _ _ ih => intro i l hi; cases i with
    | zero => simp at hi
    | succ i => exact ih i l (by simpa using hi)
theorem OWs.getN {h : List AObj} {L ls : List (Option Nat)} {os : List AObj} (hv : OWs h L ls os) : ∀ i, ls[i]? = some none → isRes (obj? os i) = false := by
  induction hv with
  | nil => intro i hi; simp at hi
  | old h1 _ ih => intro i hi; cases i with
    | zero => simp at hi
    | succ i => exact ih i (by simpa using hi)
  | new h1 _ ih => intro i hi; cases i with
    | zero => exact h1
    | succ i => exact ih i (by simpa using hi)

def liveB : AObj → Bool
  | .dead => false
  | .res => false
  | _ => true
theorem liveB_of {o : AObj} (h : live o) : liveB o = true := by cases o <;> simp [live, liveB] at *

/-- The objects that are named by live ones. -/
def namedBy : List (Option Nat) → List AObj → List Nat
  | some l :: L, o :: os => match liveB o with
    | true => l :: namedBy L os
    | false => namedBy L os
  | none :: L, _ :: os => namedBy L os
  | _, _ => []

/-- The closed conditions of a renumbering. -/
def okL (m n : Nat) (L : List (Option Nat)) (h' : List AObj) : Bool :=
  (List.range m).all (fun i => L[i]? == some (some i)) && (L.all fun o => match o with | some l => decide (l < n) | none => true) && decide ((namedBy L h').Nodup)

theorem named_mem : ∀ (L : List (Option Nat)) (hs : List AObj) (k l : Nat), L[k]? = some (some l) → live (obj? hs k) → l ∈ namedBy L hs := by
  intro L
  induction L with
  | nil => intro hs k l hk; simp at hk
  | cons o L ih =>
    intro hs k l hk hl
    cases hs with
    | nil => simp [obj?, live] at hl
    | cons a as =>
      cases k with
      | zero =>
        simp at hk; subst hk
        have : liveB a = true := liveB_of hl
        simp [namedBy, this]
      | succ k =>
        have hm := ih as k l (by simpa using hk) hl
        cases o with
        | none => simpa [namedBy] using hm
        | some x =>
          simp only [namedBy]
          split
          · exact List.mem_cons_of_mem _ hm
          · exact hm

theorem named_inj : ∀ (L : List (Option Nat)) (hs : List AObj), (namedBy L hs).Nodup → ∀ i j l, L[i]? = some (some l) → L[j]? = some (some l) → live (obj? hs i) → live (obj? hs j) → i = j := by
  intro L
  induction L with
  | nil => intro hs _ i j l hi; simp at hi
  | cons o L ih =>
    intro hs hn i j l hi hj li lj
    cases hs with
    | nil => simp [obj?, live] at li
    | cons a as =>
      have hn' : (namedBy L as).Nodup := by
        cases o with
        | none => simpa [namedBy] using hn
        | some x =>
          simp only [namedBy] at hn
          split at hn
          · exact (List.nodup_cons.1 hn).2
          · exact hn
      have key : ∀ k, o = some l → live a → L[k]? = some (some l) → live (obj? as k) → False := fun k ho ha hk lk => by
        subst ho
        simp only [namedBy, liveB_of ha] at hn
        exact (List.nodup_cons.1 hn).1 (named_mem L as k l hk lk)
      cases i with
      | zero => cases j with
        | zero => rfl
        | succ j => exact (key j (by simpa using hi) li (by simpa using hj) lj).elim
      | succ i => cases j with
        | zero => exact (key i (by simpa using hj) lj (by simpa using hi) li).elim
        | succ j => exact congrArg _ (ih as hn' i j l (by simpa using hi) (by simpa using hj) li lj)

theorem Weak.mk' {m : Nat} {t t' : List AV} {h h' : List AObj} {L : List (Option Nat)} (hL : okL m h.length L h' = true) (ht : VWs h L t' t) (ho : OWs h L L h') : Weak m t h L t' h' := by
  simp only [okL, Bool.and_eq_true, List.all_eq_true, decide_eq_true_eq] at hL
  obtain ⟨⟨h1, h2⟩, h3⟩ := hL
  refine ⟨ht.len, ho.len, fun i hi => by simpa using h1 i (by simpa using hi), named_inj L h' h3, fun i l hl => ?_, ht.get, ho.get, ho.getN⟩
  have := h2 _ (List.mem_of_getElem? hl)
  simpa using this

end Abs
end Go.Proofs.YtiiaccpcoclklaaGreat

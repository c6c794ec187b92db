/-
  The step of the walk with questions in which the asker says how a number or a list is to be written. Conditions: none; lemmas over any program. The contract of a function from a walk of its body; calls by contracts; small laws for walks that go along with a plain function. Conditions: none; lemmas over any program. Laws for walks that go along with a plain function: starts, ends, calls, loops, elements, appends. Conditions: none; lemmas over any program. Plain functions with fuel: what they come to ('Ev'); loops over a list. Conditions: none; lemmas without a program. The records of the types that walks ask for. Conditions: none. The data of the program as plain trees, and as abstract values. Conditions: none; definitions and lemmas. More of the program's data as plain structures, and as abstract values. Conditions: none; definitions and lemmas. Structures of the program (printed by gen.py). Conditions: none.
-/
import Derived.Test.YtiiaccpcoclklaaGreatBTypingUnionsProof4
import Derived.Test.YtiiaccpcoclklaaGreatProg
import Derived.KernelRfl
set_option linter.unusedSimpArgs false
set_option linter.unusedVariables false
namespace Go.Proofs.YtiiaccpcoclklaaGreat
namespace Abs
open Go

/-- A number, written as one likes. -/
def ArK (v : Int) (K : Int → Prop) : Prop := ∃ n, n = v ∧ K n
/-- A list of elements, written as one likes. -/
def EsK (v : List (List AV)) (K : List (List AV) → Prop) : Prop := ∃ es, es = v ∧ K es

theorem ArK.out {v : Int} {K : Int → Prop} (h : ArK v K) : K v := by obtain ⟨n, rfl, h⟩ := h; exact h
theorem EsK.out {v : List (List AV)} {K : List (List AV) → Prop} (h : EsK v K) : K v := by obtain ⟨n, rfl, h⟩ := h; exact h

def SIdxU (s : List UInt8) (n : Int) (K : AV → Prop) : Prop := ∃ x : Int, (0 ≤ n ∧ n < s.length) ∧ x = (s.getD n.toNat 0).toNat ∧ K (.int .u8 x)
def CatU (a b : List UInt8) (K : AV → Prop) : Prop := ∃ r, a.length + b.length ≤ 9223372036854775807 ∧ r = a ++ b ∧ K (.str r)
def CutSU (s : List UInt8) (lo hi : Option AV) (K : AV → Prop) : Prop := ∃ r, (∃ l h, boundA hi s.length s.length = some h ∧ boundA lo 0 h = some l ∧ r = (s.drop l).take (h - l)) ∧ K (.str r)
def CutLU (es : List (List AV)) (sz : Nat) (lo hi : Option AV) (K : AV → Prop) : Prop := ∃ r, (∃ l h, boundA hi es.length es.length = some h ∧ boundA lo 0 h = some l ∧ (l < es.length → (es.getD l []).length = sz) ∧ r = (es.drop l).take (h - l)) ∧ K (.slice r .shared)

/-- Whether a list of nodes is there. -/
def NilU (ns : List (List AV)) (neg : Bool) (K : AV → Prop) : Prop := ∃ b : Bool, b = ns.isEmpty ∧ K (.bool (neg != b))
def ConsU (ns : List (List AV)) (K : AV → Prop) : Prop := ∃ cs r cells, ns = cs :: r ∧ cells = cs ++ [.flist r] ∧ K (.eptr cells)

def binU (τ : Nat → TI) (op : BinOp) (t : TypeId) (x y : AV) (K : AV → Prop) : Prop :=
  match op, x, y with
  | .add, .str a, .str b => CatU a b K
  | .eql, .flist ns, .nilp => onB (τ t).isPtr (NilU ns false K) False
  | .neq, .flist ns, .nilp => onB (τ t).isPtr (NilU ns true K) False
  | .add, .int k a, .int k' b => onB (decide (k = k')) (ArK (k.wrap (a + b)) fun n => K (.int k n)) False
  | .sub, .int k a, .int k' b => onB (decide (k = k')) (ArK (k.wrap (a - b)) fun n => K (.int k n)) False
  | .mul, .int k a, .int k' b => onB (decide (k = k')) (ArK (k.wrap (a * b)) fun n => K (.int k n)) False
  | op, x, y => onO (binT τ op t x y) K

def lenU (K : AV → Prop) (isStr : Bool) (slT : Option Nat) : AV → Prop
  | .str s => onB isStr (K (.int .i64 s.length)) False
  | .slice es _ => onO slT fun _ => ArK es.length fun n => K (.int .i64 n)
  | .psl _ _ n => onO slT fun _ => K (.int .i64 n)
  | _ => False

def appTag (σ : Nat → AObj) (k sz bytes : Nat) (d : Option Tmp) (K : List Nat → List Wr → Prop) (es ys : List (List AV)) : Tag → Prop
  | .nils => match es with
    | [] => onB (isRes (σ k)) (AppN ys sz bytes (EsK ys fun es => ∃ n, n = ys.length * sz ∧ K [k] (.obj k (.tip n) :: toDst d (.slice es (.tip k sz))))) False
    | _ => False
  | .tip l z => match σ l with
    | .tip n => onB (isRes (σ k) && z == sz) (AppT n es ys sz bytes (EsK (es ++ ys) fun r => ∃ n, n = (es ++ ys).length * sz ∧ K [l, k] (.obj l .dead :: .obj k (.tip n) :: toDst d (.slice r (.tip k sz))))) False
    | _ => False
  | .shared => False
/-- append onto a slice whose block nobody else looks at. -/
def AppP (n : Nat) (es ys : List (List AV)) (sz bytes : Nat) (K : List (List AV) → Nat → Prop) : Prop :=
  (n ≤ es.length ∧ (n + ys.length) * bytes ≤ 140737488355328 ∧ n + ys.length ≤ 140737488355328 ∧ (es.all (okElem sz) = true) ∧ (ys.all (okElem sz) = true)) ∧ ∃ r m, r = es.take n ++ ys ∧ m = r.length ∧ K r m
def appObj (σ : Nat → AObj) (l k z n sz bytes : Nat) (d : Option Tmp) (K : List Nat → List Wr → Prop) (ys : List (List AV)) : AObj → Prop
  | .arr z' es => onB (isRes (σ k) && (z == sz && z' == sz)) (AppP n es ys sz bytes fun r m => K [l, k] (.obj l .dead :: .obj k (.arr sz r) :: toDst d (.psl k sz m))) False
  | _ => False
def appU (σ : Nat → AObj) (k sz bytes : Nat) (d : Option Tmp) (K : List Nat → List Wr → Prop) : AV → AV → Prop
  | .slice es tg, .slice ys _ => appTag σ k sz bytes d K es ys tg
  | .psl l z n, .slice ys _ => appObj σ l k z n sz bytes d K ys (σ l)
  | _, _ => False

def cutU (isStr : Bool) (slT : Option Nat) (lo hi : Option AV) (K : AV → Prop) : AV → Prop
  | .str s => onB isStr (CutSU s lo hi K) False
  | .slice es _ => onO slT fun sz => CutLU es sz lo hi K
  | .psl l z n => onO slT fun _ => match lo with
    | none => ∃ m, boundA hi n n = some m ∧ K (.psl l z m)
    | some _ => False
  | _ => False

/-- The parts of a literal, if they stand in order and leave none out. -/
def consec : Nat → List (Nat × Operand) → Bool
  | _, [] => true
  | i, p :: ps => Nat.beq p.1 i && consec (i + 1) ps
def bldF (ρ : Operand → AV) (sz : Nat) : List (Nat × Operand) → (List (List AV) → Prop) → Prop
  | [], K => K []
  | p :: ps, K => onO (avCells (ρ p.2)) fun cs => onB (Nat.beq cs.length sz) (fL (cs.map shr) fun cs => bldF ρ sz ps fun es => K (cs :: es)) False

theorem bldF_out {ρ : Operand → AV} {sz : Nat} : ∀ (ps : List (Nat × Operand)) (K : List (List AV) → Prop), bldF ρ sz ps K → ∃ css : List (List AV), css.length = ps.length ∧ (∀ c ∈ css, c.length = sz) ∧ (∀ j : Nat, j < ps.length → ∃ p, ps[j]? = some p ∧ avCells (ρ p.2) = css[j]?) ∧ K (css.map fun c => c.map shr) := by
  intro ps
  induction ps with
  | nil => intro K h; exact ⟨[], rfl, by simp, fun j hj => by simp at hj, h⟩
  | cons p ps ih =>
    intro K h
    obtain ⟨cs, h1, h2⟩ := onO_elim h
    rcases onB_elim h2 with ⟨h3, h4⟩ | ⟨_, h4⟩
    · rw [fL_eq] at h4
      obtain ⟨css, g1, g2, g3, g4⟩ := ih _ h4
      refine ⟨cs :: css, by simp [g1], ?_, ?_, g4⟩
      · intro c hc
        rcases List.mem_cons.1 hc with rfl | hc
        · exact Nat.eq_of_beq_eq_true h3
        · exact g2 c hc
      · intro j hj
        cases j with
        | zero => exact ⟨p, rfl, h1⟩
        | succ j =>
          obtain ⟨q, q1, q2⟩ := g3 j (by simpa using hj)
          exact ⟨q, by simpa using q1, by simpa using q2⟩
    · exact h4.elim

theorem flatten_len {sz : Nat} : ∀ {css : List (List AV)}, (∀ c ∈ css, c.length = sz) → css.flatten.length = css.length * sz
  | [], _ => by simp
  | c :: css, h => by
    simp only [List.flatten_cons, List.length_append, List.length_cons]
    rw [h c (by simp), flatten_len (fun c hc => h c (by simp [hc]))]
    rw [Nat.add_mul]; omega

theorem fill_consec {ρ : Operand → AV} {sz : Nat} : ∀ (ps : List (Nat × Operand)) (i : Nat) (css : List (List AV)) (cells : List AV), consec i ps = true → css.length = ps.length → (∀ c ∈ css, c.length = sz) → (∀ j : Nat, j < ps.length → ∃ p, ps[j]? = some p ∧ avCells (ρ p.2) = css[j]?) → (i + ps.length) * sz ≤ cells.length →
    fillA (fun i => some (i * sz, sz)) cells (ps.map fun p => (p.1, ρ p.2)) = some (cells.take (i * sz) ++ css.flatten ++ cells.drop ((i + ps.length) * sz)) := by
  intro ps
  induction ps with
  | nil => intro i css cells _ hl _ _ _; have : css = [] := List.length_eq_zero_iff.1 hl; subst this; simp [fillA]
  | cons p ps ih =>
    intro i css cells hc hl hz hp hle
    simp only [consec, Bool.and_eq_true] at hc
    obtain ⟨hc1, hc2⟩ := hc
    have hi : p.1 = i := Nat.eq_of_beq_eq_true hc1
    cases css with
    | nil => simp at hl
    | cons c css =>
      obtain ⟨q, q1, q2⟩ := hp 0 (by simp)
      simp only [List.getElem?_cons_zero, Option.some.injEq] at q1 q2
      subst q1
      have hcl : c.length = sz := hz c (by simp)
      simp only [List.length_cons] at hle hl
      have e1 : (i + (ps.length + 1)) * sz = i * sz + (ps.length * sz + sz) := by rw [Nat.add_mul, Nat.add_mul, Nat.one_mul]
      rw [e1] at hle
      simp only [List.map_cons, fillA, hi, q2]
      rw [if_pos ⟨hcl, by omega⟩]
      rw [ih (i + 1) css _ hc2 (by omega) (fun c hc => hz c (by simp [hc])) (fun j hj => by
        obtain ⟨q, q1, q2⟩ := hp (j + 1) (by simpa using hj)
        exact ⟨q, by simpa using q1, by simpa using q2⟩) (by
          simp only [List.length_append, List.length_take, List.length_drop, hcl]
          rw [show (i + 1 + ps.length) * sz = i * sz + sz + ps.length * sz by rw [Nat.add_mul, Nat.add_mul, Nat.one_mul]]
          omega)]
      congr 1
      have t1 : (cells.take (i * sz) ++ c ++ cells.drop (i * sz + sz)).take ((i + 1) * sz) = cells.take (i * sz) ++ c := by
        rw [List.take_append_of_le_length (by simp [hcl]; rw [Nat.add_mul]; omega)]
        apply List.take_of_length_le
        simp [hcl]; rw [Nat.add_mul]; omega
      have t2 : (cells.take (i * sz) ++ c ++ cells.drop (i * sz + sz)).drop ((i + 1 + ps.length) * sz) = cells.drop ((i + (ps.length + 1)) * sz) := by
        have hl2 : (cells.take (i * sz) ++ c).length = i * sz + sz := by simp [hcl]; omega
        rw [show (i + 1 + ps.length) * sz = (cells.take (i * sz) ++ c).length + ps.length * sz by rw [hl2, Nat.add_mul, Nat.add_mul, Nat.one_mul]]
        rw [← List.drop_drop, List.drop_left, List.drop_drop, e1]
        congr 1
        omega
      rw [t1]
      simp only [List.length_cons]
      rw [t2]
      simp [List.append_assoc]

theorem chunks_flatten {sz : Nat} : ∀ {css : List (List AV)}, (∀ c ∈ css, c.length = sz) → chunks sz css.length css.flatten = css
  | [], _ => rfl
  | c :: css, h => by
    have hc : c.length = sz := h c (by simp)
    simp only [List.length_cons, chunks, List.flatten_cons]
    rw [List.take_left' hc, List.drop_left' hc, chunks_flatten (fun c hc => h c (by simp [hc]))]

def arrF (ρ : Operand → AV) : List (Nat × Operand) → List AV → (List AV → Prop) → Prop
  | [], cells, K => K cells
  | p :: ps, cells, K => onO (avCells (ρ p.2)) fun cs => match cs with
    | [c] => onB (Nat.blt p.1 cells.length) (setF cells p.1 c fun cells => arrF ρ ps cells K) False
    | _ => False

theorem take_set_drop {α : Type} : ∀ (l : List α) (i : Nat) (v : α), i < l.length → l.take i ++ [v] ++ l.drop (i + 1) = l.set i v
  | [], _, _, h => by simp at h
  | x :: l, 0, v, _ => by simp
  | x :: l, i + 1, v, h => by
    have := take_set_drop l i v (by simpa using h)
    simp only [List.take_succ_cons, List.drop_succ_cons, List.set_cons_succ, List.cons_append]
    rw [← this]

theorem arrF_out {ρ : Operand → AV} : ∀ (ps : List (Nat × Operand)) (cells : List AV) (K : List AV → Prop), arrF ρ ps cells K → ∃ cs, fillA (fun i => some (i * 1, 1)) cells (ps.map fun p => (p.1, ρ p.2)) = some cs ∧ K cs := by
  intro ps
  induction ps with
  | nil => intro cells K h; exact ⟨cells, rfl, h⟩
  | cons p ps ih =>
    intro cells K h
    obtain ⟨cs, h1, h2⟩ := onO_elim h
    split at h2
    · rename_i c
      rcases onB_elim h2 with ⟨h3, h4⟩ | ⟨_, h4⟩
      · rw [setF_eq] at h4
        obtain ⟨r, g1, g2⟩ := ih _ _ h4
        refine ⟨r, ?_, g2⟩
        have hlt : p.1 < cells.length := by simpa [Nat.blt, Nat.succ_le_iff] using h3
        simp only [List.map_cons, fillA, h1, Nat.mul_one]
        rw [if_pos ⟨rfl, by omega⟩, take_set_drop _ _ _ hlt]
        simpa only [Nat.mul_one] using g1
      · exact h4.elim
    · exact h2.elim

def PutU (es : List (List UInt8 × AV)) (k : List UInt8) (v : AV) (K : List (List UInt8 × AV) → Prop) : Prop := ∃ r, es.length < 140737488355328 ∧ r = putA es k v ∧ K r

def BytesU (es : List (List AV)) (K : AV → Prop) : Prop := ∃ bs, bytesA es = some bs ∧ K (.str bs)

def bldArr (ρ : Operand → AV) (ps : List (Nat × Operand)) (z : Option (List AV)) (K : AV → Prop) : IxT → Prop
  | .arr _ (some sz) => onB (Nat.beq sz 1) (onO z fun z => arrF ρ ps z fun cs => K (.agg cs)) False
  | _ => False

/-- A place in an array: where it is, one says as one likes. -/
def idxU (K : AV → Prop) : IxT → AV → AV → Prop
  | .arr len (some sz), .ptr l o, .int _ n => ∃ m : Nat, (0 ≤ n ∧ n < len) ∧ m = o + n.toNat * sz ∧ K (.ptr l m)
  | ix, x, i => idxV K ix x i
theorem idxU_out {K : AV → Prop} {ix : IxT} {x i : AV} (h : idxU K ix x i) : idxV K ix x i := by
  unfold idxU at h
  split at h
  · obtain ⟨m, h1, rfl, h2⟩ := h
    exact ⟨h1, h2⟩
  · exact h

def stepU (τ : Nat → TI) (k : Nat) (d : Option Tmp) (ρ : Operand → AV) (σ : Nat → AObj) (K : List Nat → List Wr → Prop) : Op → Prop
  | .binOp op t x y _ => binU τ op t (ρ x) (ρ y) fun v => K [] (toDst d v)
  | .nilCheck x => match ρ x with
    | .flist ns => ConsU ns fun v => K [] (toDst d v)
    | v => onO (nilK v) fun v => K [] (toDst d v)
  | .indexAddr t x i => idxU (fun v => K [] (toDst d v)) (τ t).ix (ρ x) (ρ i)
  | .index t x i => match ρ x, ρ i with
    | .str s, .int _ n => onB (τ t).isStr (SIdxU s n fun v => K [] (toDst d v)) False
    | _, _ => False
  | .build t parts => onB (τ t).isStruct (onO (τ t).zero fun z => onO (fillA (lk (τ t).place) z (parts.toList.map fun p => (p.1, ρ p.2))) fun cs => K [] (toDst d (.agg cs))) (bldArr ρ parts.toList (τ t).zero (fun v => K [] (toDst d v)) (τ t).ix)
  | .convert s t x => match ρ x with
    | .int _ n => onB (τ s).int.isSome (onO (τ t).int fun k => K [] (toDst d (.int k (k.wrap n)))) False
    | .slice es _ => onO (τ s).elem fun e => onB (decide ((τ e.1).int = some .u8) && (τ t).isStr) (BytesU es fun v => K [] (toDst d v)) False
    | _ => False
  | .slice t x lo hi none => cutU (τ t).isStr (τ t).slT (lo.map ρ) (hi.map ρ) (fun v => K [] (toDst d v)) (ρ x)
  | .buildSlice t len parts => onO (τ t).elem fun e => onO (τ e.1).zero fun z => onB (isRes (σ k) && (decide (len * e.2.1 ≤ 16777216) && (decide (len ≤ 16777216) && decide (z.length = e.2.1))))
      (onB (consec 0 parts.toList && Nat.beq parts.toList.length len) (bldF ρ e.2.1 parts.toList fun es => EsK es fun es => K [k] (.obj k (.tip (len * e.2.1)) :: toDst d (.slice es (.tip k e.2.1))))
        (onO (fillA (fun i => some (i * e.2.1, e.2.1)) ((List.replicate len z).flatten) (parts.toList.map fun p => (p.1, ρ p.2))) fun cs => EsK (chunks e.2.1 len (cs.map shr)) fun es => K [k] (.obj k (.tip (len * e.2.1)) :: toDst d (.slice es (.tip k e.2.1))))) False
  | .call { callee := .builtin .len, args, argTypes } => match args.toList, argTypes.toList with
    | [x], [t] => lenU (fun v => K [] (toDst d v)) (τ t).isStr (τ t).slT (ρ x)
    | _, _ => False
  | .call { callee := .builtin .append, args, argTypes } => match args.toList, argTypes.toList with
    | [x, y], [t, t2] => onO (τ t).elem fun e => onB (τ t2).isSl (appU σ k e.2.1 e.2.2 d K (ρ x) (ρ y)) False
    | _, _ => False
  | .mapUpdate t m key x => onO (τ t).smap fun _ => match ρ m, ρ key with
    | .mapr l, .str s => match σ l with
      | .mp es => PutU es s (shrD (ρ x)) fun r => K [l] (.obj l (.mp r) :: toDst d (.tup []))
      | _ => False
    | _, _ => False
  | op => stepT τ k d ρ σ K op

theorem binU_out {τ : Nat → TI} {op : BinOp} {t : TypeId} {x y : AV} {K : AV → Prop} (h : binU τ op t x y K) : binV τ op t x y K := by
  unfold binU at h
  split at h
  · obtain ⟨r, g1, rfl, g2⟩ := h
    exact ⟨g1, g2⟩
  · rcases onB_elim h with ⟨e, b, rfl, g⟩ | ⟨_, g⟩
    · simp only [binV, binT, e, if_true, isNilA, onO]; simpa using g
    · exact g.elim
  · rcases onB_elim h with ⟨e, b, rfl, g⟩ | ⟨_, g⟩
    · simp only [binV, binT, e, if_true, isNilA, onO]; simpa using g
    · exact g.elim
  · rcases onB_elim h with ⟨e, g⟩ | ⟨_, g⟩
    · simp only [decide_eq_true_eq] at e; subst e; simp only [binV, binT, if_true, onO]; exact g.out
    · exact g.elim
  · rcases onB_elim h with ⟨e, g⟩ | ⟨_, g⟩
    · simp only [decide_eq_true_eq] at e; subst e; simp only [binV, binT, if_true, onO]; exact g.out
    · exact g.elim
  · rcases onB_elim h with ⟨e, g⟩ | ⟨_, g⟩
    · simp only [decide_eq_true_eq] at e; subst e; simp only [binV, binT, if_true, onO]; exact g.out
    · exact g.elim
  · rename_i hn1 _ _ hn2 hn3 hn4
    unfold binV
    split
    · exact (hn1 _ _ rfl rfl rfl).elim
    · exact h

theorem onB_mono {b : Bool} {A A' B B' : Prop} (h : onB b A B) (h1 : A → A') (h2 : B → B') : onB b A' B' := by cases b; exact h2 h; exact h1 h
theorem onO_mono {α : Type} {r : Option α} {K K' : α → Prop} (h : onO r K) (hk : ∀ x, K x → K' x) : onO r K' := by cases r with | none => exact h | some x => exact hk x h

theorem lenU_out {K : AV → Prop} {isStr : Bool} {slT : Option Nat} {v : AV} (h : lenU K isStr slT v) : onO (lenK isStr slT v) K := by
  unfold lenU at h
  split at h
  · rcases onB_elim h with ⟨e, g⟩ | ⟨_, g⟩
    · subst e; exact g
    · exact g.elim
  · obtain ⟨x, e, g⟩ := onO_elim h
    subst e; exact g.out
  · obtain ⟨x, e, g⟩ := onO_elim h
    subst e; exact g
  · exact h.elim

theorem appU_out {σ : Nat → AObj} {k sz bytes : Nat} {d : Option Tmp} {K : List Nat → List Wr → Prop} {x y : AV} (h : appU σ k sz bytes d K x y) : appV σ k sz bytes d K x y ∨
    ∃ l n es ys tg, x = .psl l sz n ∧ y = .slice ys tg ∧ σ l = .arr sz es ∧ isRes (σ k) = true ∧ n ≤ es.length ∧ (n + ys.length) * bytes ≤ 140737488355328 ∧ n + ys.length ≤ 140737488355328 ∧ es.all (okElem sz) = true ∧ ys.all (okElem sz) = true ∧
      K [l, k] (.obj l .dead :: .obj k (.arr sz (es.take n ++ ys)) :: toDst d (.psl k sz (es.take n ++ ys).length)) := by
  unfold appU at h
  split at h
  · refine .inl ?_
    unfold appTag at h
    split at h
    · split at h
      · refine onB_mono h (fun g => ?_) id
        obtain ⟨g1, g2⟩ := g
        obtain ⟨n, e, g⟩ := g2.out
        subst e
        exact ⟨g1, g⟩
      · exact h.elim
    · split at h
      · rename_i hσ
        simp only [appV, hσ]
        refine onB_mono h (fun g => ?_) id
        obtain ⟨g1, g2⟩ := g
        obtain ⟨n, e, g⟩ := g2.out
        subst e
        exact ⟨g1, g⟩
      · exact h.elim
    · exact h.elim
  · rename_i l z n ys tg
    refine .inr ?_
    unfold appObj at h
    split at h
    · rename_i z' es hl
      rcases onB_elim h with ⟨e1, ⟨q1, q2, q3, q4, q5⟩, r, m, rfl, rfl, g⟩ | ⟨_, g⟩
      · simp only [Bool.and_eq_true, beq_iff_eq] at e1
        obtain ⟨e1, rfl, rfl⟩ := e1
        exact ⟨l, n, es, ys, tg, rfl, rfl, hl, e1, q1, q2, q3, q4, q5, g⟩
      · exact g.elim
    · exact h.elim
  · exact h.elim

theorem cutU_out {isStr : Bool} {slT : Option Nat} {lo hi : Option AV} {K : AV → Prop} {v : AV} (h : cutU isStr slT lo hi K v) : cutV isStr slT lo hi K v ∨ ∃ l z n m sz, v = .psl l z n ∧ lo = none ∧ slT = some sz ∧ boundA hi n n = some m ∧ K (.psl l z m) := by
  unfold cutU at h
  split at h
  · refine .inl (onB_mono h (fun g => ?_) id)
    obtain ⟨r, ⟨l, hh, g1, g2, rfl⟩, g4⟩ := g
    exact ⟨l, hh, g1, g2, g4⟩
  · refine .inl (onO_mono h fun sz g => ?_)
    obtain ⟨r, ⟨l, hh, g1, g2, g3, rfl⟩, g4⟩ := g
    exact ⟨l, hh, g1, g2, g3, g4⟩
  · rename_i l z n
    refine .inr ?_
    obtain ⟨sz, e, g⟩ := onO_elim h
    split at g
    · obtain ⟨m, g1, g2⟩ := g
      exact ⟨l, z, n, m, sz, rfl, rfl, e, g1, g2⟩
    · exact g.elim
  · exact h.elim

theorem intT_of {P : Program} {e : Nat} {k : IntKind} (h : (TI.of P e).int = some k) : P.underlying e = some (.int k) := by
  have : intTy P e = some k := h
  unfold intTy at this
  split at this
  · rename_i k' hu; cases this; exact hu
  · cases this
theorem strT_of {P : Program} {t : Nat} (h : (TI.of P t).isStr = true) : P.underlying t = some .string := by
  have : pureOp.isStrT P t = true := h
  unfold pureOp.isStrT at this
  split at this
  · assumption
  · cases this
theorem elemT_of {P : Program} {t : Nat} {e : TypeId × Nat × Nat} (h : (TI.of P t).elem = some e) : P.underlying t = some (.slice e.1) := by
  have : elemT P t = some e := h
  unfold elemT at this
  split at this
  · rename_i e' hu
    cases hi : P.info? e' with
    | none => rw [hi] at this; cases this
    | some i =>
      rw [hi] at this
      simp only [Option.bind_some] at this
      split at this
      · cases this; exact hu
      · cases this
  · cases this

theorem convU_pure {P : Program} {s t : Nat} {x : Operand} {ρ : Operand → AV} {es : List (List AV)} {tg : Tag} {bs : List UInt8} {e : TypeId × Nat × Nat} (hx : ρ x = .slice es tg) (h1 : (TI.of P s).elem = some e) (h2 : (TI.of P e.1).int = some .u8) (h3 : (TI.of P t).isStr = true) (hb : bytesA es = some bs) : pureOp P (.convert s t x) ρ = some (.str bs) := by
  have hs := elemT_of h1
  have he := intT_of h2
  have ht := strT_of h3
  have hc : pureOp.convT P s t = none := by unfold pureOp.convT; rw [hs, ht]
  have hbt : bytesT P s t = true := by unfold bytesT; rw [hs, ht]; simp only [he]
  simp only [pureOp, hx, hc, hbt, if_true, hb, Option.map_some]

theorem stepU_out {P : Program} {k : Nat} {o : Oper} {ρ : Operand → AV} {σ : Nat → AObj} {K : List Nat → List Wr → Prop} (h : stepU (TI.of P) k o.dst ρ σ K o.op) : (∃ rd ws, heapOp P k o ρ σ = some (rd, ws) ∧ K rd ws) := by
  obtain ⟨dst, op, ty, pos, after, guard⟩ := o
  dsimp only at h
  suffices hh : stepT (TI.of P) k dst ρ σ K op ∨ (∃ v, pureOp P op ρ = some v ∧ K [] (toDst dst v)) ∨ (∃ rd ws, heapOp P k ⟨dst, op, ty, pos, after, guard⟩ ρ σ = some (rd, ws) ∧ K rd ws) by
    rcases hh with hh | ⟨v, h1, h2⟩ | hh
    · exact stepT_sound (o := ⟨dst, op, ty, pos, after, guard⟩) hh
    · exact ofPure_ok (o := ⟨dst, op, ty, pos, after, guard⟩) h1 h2
    · exact hh
  unfold stepU at h
  split at h
  · refine .inl ?_
    exact binU_out h
  · refine .inl ?_
    simp only [stepT]
    split at h
    · rename_i ns hx
      obtain ⟨cs, r, cells, rfl, rfl, g⟩ := h
      rw [hx]
      exact g
    · exact h
  · refine .inl ?_
    exact idxU_out h
  · refine .inl ?_
    simp only [stepT]
    split at h
    · rename_i h1 h2
      simp only [h1, h2]
      refine onB_mono h (fun g => ?_) id
      obtain ⟨x, g1, rfl, g2⟩ := g
      exact ⟨g1, g2⟩
    · exact h.elim
  · rename_i t parts
    by_cases hst : (TI.of P t).isStruct = true
    · refine .inl ?_
      simp only [stepT]
      rw [hst] at h ⊢
      exact h
    · refine .inr (.inl ?_)
      have hst' : (TI.of P t).isStruct = false := by simpa using hst
      rw [hst'] at h
      simp only [onB] at h
      have hs2 : isStructT P t = false := hst'
      unfold bldArr at h
      split at h
      · rename_i len sz hix
        rcases onB_elim h with ⟨e1, g⟩ | ⟨_, g⟩
        · have hsz : sz = 1 := Nat.eq_of_beq_eq_true e1
          subst hsz
          obtain ⟨z, hz, g2⟩ := onO_elim g
          obtain ⟨cs, g3, g4⟩ := arrF_out _ _ _ g2
          have hz' : zeroT P t = some z := hz
          have ha : arrT P t = some 1 := by
            have hix' : ixTy P t = .arr len (some 1) := hix
            unfold ixTy at hix'
            unfold arrT
            split at hix'
            · cases hix'
            · rename_i n e hu
              simp only [IxT.arr.injEq] at hix'
              rw [hu]; exact hix'.2
            · cases hix'
          exact ⟨.agg cs, by simp only [pureOp, hs2, Bool.false_eq_true, if_false, ha, hz', g3, Option.map_some], g4⟩
        · exact g.elim
      · exact h.elim
  · split at h
    · rename_i n hx
      refine .inl ?_
      simp only [stepT, hx]
      exact h
    · rename_i es tg hx
      refine .inr (.inl ?_)
      obtain ⟨e, h1, h2⟩ := onO_elim h
      rcases onB_elim h2 with ⟨h3, bs, h4, h5⟩ | ⟨_, g⟩
      · simp only [Bool.and_eq_true, decide_eq_true_eq] at h3
        exact ⟨.str bs, convU_pure hx h1 h3.1 h3.2 h4, h5⟩
      · exact g.elim
    · exact h.elim
  · rename_i t x lo hi
    rcases cutU_out h with g | ⟨l, z, n, m, sz, g1, g2, g3, g4, g5⟩
    · exact .inl g
    · refine .inr (.inl ⟨.psl l z m, ?_, g5⟩)
      have hsl : pureOp.sliceT P t = some sz := g3
      cases lo with
      | some y => cases g2
      | none => simp only [pureOp, g1, hsl, g4]
  · refine .inl ?_
    rename_i t len parts
    refine onO_mono h fun e g => onO_mono g fun z g => ?_
    rcases onB_elim g with ⟨hb, g⟩ | ⟨_, g⟩
    · rw [hb]
      simp only [Bool.and_eq_true, decide_eq_true_eq] at hb
      obtain ⟨_, _, _, hz⟩ := hb
      rcases onB_elim g with ⟨hc, g⟩ | ⟨_, g⟩
      · simp only [Bool.and_eq_true] at hc
        obtain ⟨hc1, hc2⟩ := hc
        have hlen := Nat.eq_of_beq_eq_true hc2
        obtain ⟨css, g1, g2, g3, g4⟩ := bldF_out _ _ g
        have hrl : ((List.replicate len z).flatten).length = len * e.2.1 := by
          rw [flatten_len (sz := e.2.1) (fun c hc => by rw [List.mem_replicate] at hc; rw [hc.2]; exact hz)]; simp
        have hf := fill_consec (ρ := ρ) (sz := e.2.1) parts.toList 0 css ((List.replicate len z).flatten) hc1 g1 g2 g3 (by rw [hrl, hlen]; simp)
        simp only [onB]
        rw [hf]
        have e1 : ((List.replicate len z).flatten).drop ((0 + parts.toList.length) * e.2.1) = [] := by
          apply List.drop_eq_nil_of_le; rw [hrl, hlen]; simp
        rw [e1]
        simp only [Nat.zero_mul, List.take_zero, List.nil_append, List.append_nil, onO]
        have e2 : chunks e.2.1 len (css.flatten.map shr) = css.map fun c => c.map shr := by
          rw [← hlen, ← g1, List.map_flatten]
          have := chunks_flatten (sz := e.2.1) (css := css.map (List.map shr)) (fun c hc => by
            obtain ⟨c', hc', rfl⟩ := List.mem_map.1 hc
            rw [List.length_map]; exact g2 c' hc')
          rw [List.length_map] at this
          exact this
        rw [e2]; exact g4.out
      · exact onO_mono g fun cs g => g.out
    · exact g.elim
  · refine .inl ?_
    simp only [stepT]
    split at h
    · rename_i h1 h2
      simp only [h1, h2]
      exact lenU_out h
    · exact h.elim
  · rename_i args argTypes
    split at h
    · rename_i x y t t2 h1 h2
      obtain ⟨e, he, h3⟩ := onO_elim h
      rcases onB_elim h3 with ⟨h4, h5⟩ | ⟨_, g⟩
      · rcases appU_out h5 with g | ⟨l, n, es, ys, tg, g1, g2, g3, g4, g5, g6, g7, g8, g9, g10⟩
        · refine .inl ?_
          simp only [stepT, h1, h2, he, onO, h4, onB]
          exact g
        · refine .inr (.inr ⟨_, _, ?_, g10⟩)
          obtain ⟨e1, e2, e3⟩ := e
          have he' : elemT P t = some (e1, e2, e3) := he
          have h4' : heapOp.isSliceT P t2 = true := h4
          simp only [heapOp, pureOp, h1, h2, he', h4', g1, g2, g3]
          rw [if_pos (by refine ⟨g4, ?_, ?_, g5, g6, g7, g8, g9⟩ <;> trivial)]
      · exact g.elim
    · exact h.elim
  · refine .inl ?_
    simp only [stepT]
    refine onO_mono h fun e g => ?_
    split at g
    · rename_i h1 h2
      simp only [h1, h2]
      split at g
      · rename_i h3
        simp only [h3]
        obtain ⟨r, g1, rfl, g2⟩ := g
        exact ⟨g1, g2⟩
      · exact g.elim
    · exact g.elim
  · refine .inl ?_
    exact h

/-- A call, kept shut while a walk reduces. -/
structure ACallU (P : Program) (f : Nat) (args : List AV) (dst : Option Tmp) (t : List AV) (h : List AObj) (k : Nat) (K : Nat → List Nat → List Wr → Prop) : Prop where
  out : ACallF P f args dst t h k K

/-- The walk of a region's operations. -/
def runU (P : Program) (τ : Nat → TI) (ops : List Oper) : List Oper → Nat → List Eff → List AV → List AObj → (List Eff → List AV → List AObj → Prop) → Prop
  | [], _, es, t, h, K => K es.reverse t h
  | o :: l, k, es, t, h, K => grd ops t
      (fun t => match callOf o.op with
        | some (f, args) => funF (fun fid caps => mapF t args.toList fun vs => fL (vs ++ caps) fun vs => ACallU P fid vs o.dst t h k fun k' ro ws => wrF ws t h fun t' h' => runU P τ ops l k' (⟨opSlots ops.toArray o, ro, ws⟩ :: es) t' h' K) (aev t f)
        | none => stepU τ k o.dst (aev t) (obj? h) (fun rd ws => wrF ws t h fun t' h' => frN (isAlloc o.op) (runU P τ ops l k (⟨opSlots ops.toArray o, rd, ws⟩ :: es) t' h' K) (runU P τ ops l (k + 1) (⟨opSlots ops.toArray o, rd, ws⟩ :: es) t' h' K)) o.op)
      (fun t => wrF (toDst o.dst (.tup [])) t h fun t' h' => runU P τ ops l k (⟨opSlots ops.toArray o, [], toDst o.dst (.tup [])⟩ :: es) t' h' K) o.guard

theorem runU_sound {P : Program} {ops : List Oper} : ∀ (l : List Oper) (k : Nat) (es : List Eff) (t : List AV) (h : List AObj) (K : List Eff → List AV → List AObj → Prop), runU P (TI.of P) ops l k es t h K → ∃ es' s', ATr P ops.toArray l es' ⟨t, h⟩ s' ∧ K (es.reverse ++ es') s'.tmps s'.heap := by
  intro l
  induction l with
  | nil => intro k es t h K hr; exact ⟨[], ⟨t, h⟩, .nil _, by simpa [runU] using hr⟩
  | cons o l ih =>
    intro k es t h K hr
    have fin : ∀ (e : Eff) (k' : Nat), AEff P ops.toArray o ⟨t, h⟩ e → (wrF e.ws t h fun t' h' => runU P (TI.of P) ops l k' (e :: es) t' h' K) → ∃ es' s', ATr P ops.toArray (o :: l) es' ⟨t, h⟩ s' ∧ K (es.reverse ++ es') s'.tmps s'.heap := fun e k' he hw => by
      rw [wrF_eq] at hw
      obtain ⟨es', s', g1, g2⟩ := ih k' (e :: es) _ _ K hw
      exact ⟨e :: es', s', .cons he g1, by simpa using g2⟩
    simp only [runU] at hr
    rcases grd_sound hr with ⟨hc, h1⟩ | ⟨hc, h2⟩
    · cases hcall : callOf o.op with
      | none =>
        rw [hcall] at h1
        obtain ⟨rd, ws, g1, g2⟩ := stepU_out h1
        have g2 : ∃ k', wrF ws t h fun t' h' => runU P (TI.of P) ops l k' (⟨opSlots ops.toArray o, rd, ws⟩ :: es) t' h' K := by
          cases hn : isAlloc o.op with
          | zero => simp only [hn, frN] at g2; exact ⟨_, g2⟩
          | succ m => simp only [hn, frN] at g2; exact ⟨_, g2⟩
        obtain ⟨k', g2⟩ := g2
        exact fin ⟨opSlots ops.toArray o, rd, ws⟩ k' (eff_heap (s := ⟨t, h⟩) hc g1) g2
      | some p =>
        obtain ⟨f, args⟩ := p
        rw [hcall] at h1
        simp only at h1
        unfold funF at h1
        split at h1
        · rename_i fid caps g1
          simp only [mapF_eq, fL_eq] at h1
          replace h1 := h1.out
          simp only [ACallF] at h1
          obtain ⟨hok, ρ, ks, aargs, H, res, H', g2, g3, g4, g5, g6⟩ := h1
          obtain ⟨tt, ho⟩ := callOf_spec hcall
          exact fin _ _ (eff_call (s := ⟨t, h⟩) hc ho g1 hok g2 g3 g4 g5) g6
        · exact h1.elim
    · exact fin _ k (eff_skip (s := ⟨t, h⟩) hc) h2

def rep (n : Nat) (h : List AObj) (K : List AObj → Prop) : Prop := fL (h ++ List.replicate n .res) K

/-- A region; r: how many objects it makes at most. -/
theorem AW.region {P : Program} {τ : Nat → TI} {m id : Nat} {l : Array Oper} {dr : Bool} {Q : QT} {t : List AV} {h : List AObj} (hτ : τ = TI.of P) (hm : P.follows .mixedOrders = true) (r : Nat)
    (hr : rep r h fun h' => fLen h 0 fun k => runU P τ l.toList l.toList k [] t h' fun es t h => onB dr (okOrder l.toList es = true ∧ Q .normal t h) (Q .normal t h)) : AW P m (.region id l dr) Q t h := by
  subst hτ
  unfold rep at hr
  simp only [fL_eq, fLen_eq] at hr
  obtain ⟨es, s', h1, h2⟩ := runU_sound _ _ _ _ _ _ hr
  simp only [List.reverse_nil, List.nil_append] at h2
  have hl : l = l.toList.toArray := by simp
  rw [hl]
  rcases onB_elim h2 with ⟨rfl, g1, g2⟩ | ⟨rfl, g⟩
  · exact AW.of (AWP.drawn (s := ⟨t, h⟩) r hm h1 g1 g2)
  · exact AW.of (AWP.region (s := ⟨t, h⟩) r h1.steps g)

end Abs
end Go.Proofs.YtiiaccpcoclklaaGreat
namespace Go.Proofs.YtiiaccpcoclklaaGreat
namespace Abs
open Go

/-- The end of a body, as it stands or weakened. -/
def RetW (P : Program) (rs : List ResultVar) (wk : Bool) (H : List AObj) (res : AV) (H' : List AObj) (t : List AV) (h : List AObj) : Prop :=
  (∃ L, RetQ P rs wk L H res H' ⟨t, h⟩) ∨ ∃ t' h', Le H.length t h t' h' ∧ ∃ L, RetQ P rs wk L H res H' ⟨t', h'⟩

def retQ (P : Program) (rs : List ResultVar) (wk : Bool) (H : List AObj) (res : AV) (H' : List AObj) : QT
  | .normal, t, h => RetW P rs wk H res H' t h
  | .ret, t, h => RetW P rs wk H res H' t h
  | _, _, _ => False

theorem acalls_AW {P : Program} {f : Nat} {fn : Func} {c : Code} {args : List AV} {H H' : List AObj} {res : AV} (wk : Bool) (hf : P.funcs[f]? = some fn) (hb : fn.body = some c) (hlen : args.length ≤ fn.ntmps)
    (h : AW P H.length c (retQ P fn.results.toList wk H res H') (args ++ List.replicate (fn.ntmps - args.length) (.tup [])) H) : ACalls P f args H res H' := by
  intro κ pv0 w vs hen hvl hr
  let C : Ctx := { pv0 := pv0, old := fun b => b < w.heap.size ∧ ∀ l, at? κ l = some b → ¬ live (obj? H l), w0 := w, k0 := κ, pvE := pvOf pv0 κ H }
  refine calls_of_wp hf hb ?_
  have hsim : Sim C κ ⟨args ++ List.replicate (fn.ntmps - args.length) (.tup []), H⟩ { tmps := vs.toArray ++ Array.replicate (fn.ntmps - vs.toArray.size) undef, defers := [] } w := by
    refine ⟨rfl, by simp [hvl], ?_, hen.klen, KExt.refl _, hen.resv, hen.obj, hen.apart, fun l b h1 h2 ho => ho.2 l h1 h2, hen.bound, fun b o h => ⟨hen.pvlt b o h, fun l hl => hen.pvdis b o l h hl⟩, fun b hb => hb.1, fun _ _ => rfl, rfl, rfl, rfl, Nat.le_refl _, fun _ _ h _ => h, Evo.refl _ _⟩
    intro n hn
    simp only [List.length_append, List.length_replicate] at hn
    by_cases hlt : n < args.length
    · have e1 : (args ++ List.replicate (fn.ntmps - args.length) (AV.tup [])).getD n .unk = args.getD n .unk := by simp [List.getD, List.getElem?_append_left hlt]
      have e2 : (vs.toArray ++ Array.replicate (fn.ntmps - vs.toArray.size) undef).getD n undef = vs.getD n undef := by
        rw [Array.getD_eq_getD_getElem?, Array.getElem?_append_left (by simp; omega)]; simp [List.getD]
      rw [e1, e2]; exact hr n hlt
    · have e1 : (args ++ List.replicate (fn.ntmps - args.length) (AV.tup [])).getD n .unk = .tup [] := by
        rw [List.getD, List.getElem?_append_right (Nat.le_of_not_lt hlt), List.getElem?_replicate, if_pos (by omega)]; rfl
      have e2 : (vs.toArray ++ Array.replicate (fn.ntmps - vs.toArray.size) undef).getD n undef = undef := by
        rw [Array.getD_eq_getD_getElem?, Array.getElem?_append_right (by simp; omega), Array.getElem?_replicate]
        split <;> rfl
      rw [e1, e2]; exact rel_undef
  have hfin : ∀ (L : List Nat) (s : ASt) (κf : Kap) (a : Act) (w' : World), RetQ P fn.results.toList wk L H res H' s → Sim C κf s a w' → a.defers = [] ∧ ∃ v, (results fn a.tmps).run P w' = .ok v w' ∧ ∃ v' κ', Ending.returned v = .returned v' ∧ Leave κ κ' pv0 H H' w w' ∧ Rel w' κ' (pvOf pv0 κ' H') res v' := by
    intro L s κf a w' hq hs
    obtain ⟨xs, q1, q2, q3, q4, q5, q6, q7, q8⟩ := hq
    refine ⟨hs.defers, ?_⟩
    obtain ⟨us, u1, u2, u3⟩ := run_results hs _ _ q1
    let κ' : Kap := L.map (at? κf)
    let g := nm L s.heap.length
    have hat : ∀ i b, at? κ' i = some b → ∃ l, L[i]? = some l ∧ at? κf l = some b := fun i b hb => by
      simp only [κ'] at hb; rw [at?_map] at hb
      cases hi : L[i]? with
      | none => rw [hi] at hb; cases hb
      | some l => rw [hi] at hb; exact ⟨l, rfl, hb⟩
    have hdown : ∀ i, at? κ' i = at? κf (g i) := fun i => by
      simp only [κ', g, nm]; rw [at?_map]
      cases hi : L[i]? with
      | some l => rfl
      | none => simp only [Option.getD_none]; rw [at?_none_of_le (by rw [hs.klen]; exact Nat.le_refl _)]
    have hpv : ∀ b o, pvOf pv0 κ' H' b o → pvOf pv0 κf s.heap b o := by
      rintro b o (h | ⟨i, h1, h2⟩)
      · exact .inl h
      · obtain ⟨l, hl, hb⟩ := hat i b h1
        exact .inr ⟨l, hb, by rw [q8 i l hl, objPv_ren]; exact h2⟩
    have hrel : ∀ {x : AV} {u : Value}, Rel w' κf (pvOf pv0 κf s.heap) (ren g x) u → Rel w' κ' (pvOf pv0 κ' H') x u := fun hx =>
      (hx.unren hdown _ rfl).mono (Evo.refl _ _) (KExt.refl _) (fun b o h _ => hpv b o h)
    have hleave : Leave κ κ' pv0 H H' w w' := by
      refine ⟨by simp [κ', q4], by omega, ?_, ?_, ?_, ?_, ?_, ?_, ?_, hs.evo, fun b o h hlt => hs.pvsub b o (hpv b o h) hlt, hs.os, hs.tape, hs.output⟩
      · intro i b hb
        have hi : i < H.length := by rw [← hen.klen]; exact lt_of_at? hb
        rw [hdown i]
        have : g i = i := by simp only [g, nm, q6 i hi]; rfl
        rw [this]; exact hs.kext i b hb
      · intro i hi
        rw [hdown i]
        cases h0 : L[i]? with
        | none => simp only [g, nm, h0, Option.getD_none]; exact at?_none_of_le (by rw [hs.klen]; exact Nat.le_refl _)
        | some l =>
          simp only [g, nm, h0, Option.getD_some]
          exact hs.resv l (by rw [q8 i l h0, hi]; rfl)
      · intro i b h1 h2
        obtain ⟨l, hl, hb⟩ := hat i b h1
        have := hs.obj l b hb (by rw [q8 i l hl, live_ren]; exact h2)
        rw [q8 i l hl] at this
        exact (this.unren hdown).mono rfl (Evo.refl _ _) (KExt.refl _) (fun b o h _ => hpv b o h)
      · intro i b h1 h2
        obtain ⟨l, hl, hb⟩ := hat i b h1
        have hno := hs.own l b hb (by rw [q8 i l hl, live_ren]; exact h2)
        by_cases hlt : b < w.heap.size
        · right
          apply Classical.byContradiction
          intro hne
          exact hno ⟨hlt, fun l0 h0 hlv => hne ⟨l0, h0, hlv⟩⟩
        · left; omega
      · intro i j b h1 h2 h3 h4
        obtain ⟨l, hl, hb⟩ := hat i b h1
        obtain ⟨l', hl', hb'⟩ := hat j b h2
        have e := hs.apart l l' b hb hb' (by rw [q8 i l hl, live_ren]; exact h3) (by rw [q8 j l' hl', live_ren]; exact h4)
        subst e
        exact (List.getElem?_inj (List.getElem?_eq_some_iff.1 hl).1 q3).1 (hl.trans hl'.symm)
      · intro i b h1
        obtain ⟨l, _, hb⟩ := hat i b h1
        exact hs.bound l b hb
      · intro b hb hnl
        exact hs.old b ⟨hb, hnl⟩
    have hresrel : ∀ (x : AV) (u : Value), Rel w' κf (pvOf pv0 κf s.heap) x u → Rel w' κf (pvOf pv0 κf s.heap) (if wk then shrD x else x) u := fun x u hx => by
      cases wk
      · exact hx
      · exact hx.shrD
    have hrun : ∃ v, (results fn a.tmps).run P w' = .ok v w' ∧ Rel w' κf (pvOf pv0 κf s.heap) (resV wk xs) v := by
      have hm : (fn.results.mapM (resM a.tmps)).run P w' = .ok us.toArray w' := by
        rw [Array.mapM_eq_mapM_toList]
        simp only [Sem.run_map, u3, Result.andThen_ok]
      rw [results_eq]
      simp only [Sem.run_bind, hm, Result.andThen_ok, Sem.run_pure]
      by_cases h1 : us.length = 1
      · match us, h1 with
        | [u], _ =>
          match xs, u1 with
          | [x], _ =>
            refine ⟨u, by simp, ?_⟩
            have := u2 0 (by simp)
            simp only [List.getD, List.getElem?_cons_zero, Option.getD_some] at this
            exact hresrel x u this
      · refine ⟨.tuple us.toArray, by simp [h1], ?_⟩
        have hx : resV wk xs = .tup (if wk then xs.map shrD else xs) := by
          match xs, u1 with
          | [], _ => rfl
          | [x], h => exact (h1 (by simpa using h)).elim
          | _ :: _ :: _, _ => rfl
        rw [hx]
        refine .tup (by split <;> simp [u1]) fun j hj => ?_
        have hj' : j < xs.length := by split at hj <;> simpa using hj
        have := hresrel _ _ (u2 j hj')
        cases wk
        · exact this
        · simp only [if_true] at this ⊢
          have e : (xs.map shrD).getD j .unk = shrD (xs.getD j .unk) := by simp [List.getD, List.getElem?_eq_getElem hj']
          rw [e]; exact this
    obtain ⟨v, hv1, hv2⟩ := hrun
    rw [q2] at hv2
    exact ⟨v, hv1, v, κ', rfl, hleave, hrel hv2⟩
  have hkl : C.k0.length ≤ H.length := Nat.le_of_eq hen.klen
  refine wp_mono (h C κ _ w hkl hsim) ?_
  rintro e a w' ⟨s, κf, hq, hs⟩
  have fin : RetW P fn.results.toList wk H res H' s.tmps s.heap → a.defers = [] ∧ ∃ v, (results fn a.tmps).run P w' = .ok v w' ∧ ∃ v' κ', Ending.returned v = .returned v' ∧ Leave κ κ' pv0 H H' w w' ∧ Rel w' κ' (pvOf pv0 κ' H') res v' := by
    rintro (⟨L, hq⟩ | ⟨t', h', hwk, L, hq⟩)
    · exact hfin L s κf a w' hq hs
    · obtain ⟨κ2, hs2⟩ := hwk C κf a w' hkl hs
      exact hfin L _ κ2 a w' hq hs2
  cases e with
  | normal => exact fin hq
  | ret => exact fin hq
  | exit id => exact hq.elim
  | goto l => exact hq.elim
  | panic c => exact hq.elim
  | outgrown => exact hq.elim


end Abs
end Go.Proofs.YtiiaccpcoclklaaGreat
namespace Go.Proofs.YtiiaccpcoclklaaGreat
namespace Abs
open Go

/-! ### The plain side -/

theorem ob {α β : Type} {x : Option α} {k : α → Option β} {r : β} (h : x.bind k = some r) : ∃ a, x = some a ∧ k a = some r := by
  cases x with
  | none => cases h
  | some a => exact ⟨a, rfl, h⟩

/-- How a piece ends: it goes on, or it hands a result back. -/
inductive LR (σ ρ : Type) where
  | nx (s : σ)
  | rt (r : ρ)
def LR.on {σ ρ : Type} (k : σ → Option ρ) : LR σ ρ → Option ρ
  | .nx s => k s
  | .rt r => some r

@[reducible] def LR.el {σ ρ β : Type} (k : σ → β) (j : ρ → β) : LR σ ρ → β
  | .nx s => k s
  | .rt r => j r

def idx {α : Type} (l : List α) (i : Int) : Option α := if 0 ≤ i then l[i.toNat]? else none
def app {α : Type} (b : Nat) (l ys : List α) : Option (List α) := if (l.length + ys.length) * b ≤ 140737488355328 ∧ l.length + ys.length ≤ 140737488355328 then some (l ++ ys) else none
def sidx (s : List UInt8) (i : Int) : Option Int := if 0 ≤ i ∧ i < s.length then some ((s.getD i.toNat 0).toNat : Int) else none
def scat (a b : List UInt8) : Option (List UInt8) := if a.length + b.length ≤ 9223372036854775807 then some (a ++ b) else none
def scut {α : Type} (s : List α) (lo hi : Int) : Option (List α) := if 0 ≤ lo ∧ lo ≤ hi ∧ hi ≤ s.length then some ((s.drop lo.toNat).take (hi.toNat - lo.toNat)) else none
abbrev w64 (n : Int) : Int := IntKind.wrap .i64 n
abbrev w8 (n : Int) : Int := IntKind.wrap .u8 n

theorem w64_id {n : Int} (h1 : -9223372036854775808 ≤ n) (h2 : n ≤ 9223372036854775807) : n = IntKind.wrap .i64 n := by
  simp only [IntKind.wrap, IntKind.signed, IntKind.bits]; simp; omega

theorem wf64 {n : Int} (h : VF (.int .i64 n)) : -9223372036854775808 ≤ n ∧ n ≤ 9223372036854775807 := h
theorem vfl {α : Type} {f : α → List AV} {l : List α} {t : Tag} (h : VF (.slice (l.map f) t)) : (l.length : Int) ≤ 9223372036854775807 := by
  have : (l.map f).length ≤ 9223372036854775807 := h
  rw [List.length_map] at this; omega
theorem vfs {s : List UInt8} (h : VF (.str s)) : (s.length : Int) ≤ 9223372036854775807 := by
  have : s.length ≤ 9223372036854775807 := h
  omega

theorem onB_cond {α : Type} {c : Bool} {X Y : Option α} {r : α} {A B : Prop} (h : _root_.cond c X Y = some r) (h1 : c = true → X = some r → A) (h2 : c = false → Y = some r → B) : onB c A B := by
  cases c
  · exact h2 rfl h
  · exact h1 rfl h

theorem AW.condS {α : Type} {P : Program} {m : Nat} {c : Operand} {x y : Code} {Q : QT} {t : List AV} {h : List AObj} {b : Bool} {X Y : Option α} {r : α} (hc : aev t c = .bool b) (hh : _root_.cond b X Y = some r)
    (h1 : b = true → X = some r → AW P m x Q t h) (h2 : b = false → Y = some r → AW P m y Q t h) : AW P m (.cond c x y) Q t h :=
  AW.cond hc (fun e => h1 e (by subst e; exact hh)) (fun e => h2 e (by subst e; exact hh))

/-! ### Elements, lengths, appends -/

theorem idx_of {α : Type} {l : List α} {f : α → List AV} {x : α} {i : Int} {sz : Nat} {B : List AV → Prop} {cs : List AV} (hx : idx l i = some x) (hc : f x = cs) (hz : cs.length = sz) (hk : B cs) : ∃ c, (l.map f)[i.toNat]? = some c ∧ 0 ≤ i ∧ c.length = sz ∧ B c := by
  unfold idx at hx
  split at hx
  · rename_i h0
    exact ⟨cs, by rw [List.getElem?_map, hx, ← hc]; rfl, h0, hz, hk⟩
  · cases hx

theorem len_of {α : Type} {l : List α} {f : α → List AV} {K : Int → Prop} (h : K l.length) : ∃ n, n = ((l.map f).length : Int) ∧ K n := ⟨l.length, by rw [List.length_map], h⟩

theorem sidx_of {s : List UInt8} {i x : Int} {B : Int → Prop} (hx : sidx s i = some x) (hk : B x) : ∃ x : Int, (0 ≤ i ∧ i < s.length) ∧ x = (s.getD i.toNat 0).toNat ∧ B x := by
  unfold sidx at hx
  split at hx
  · rename_i h0; cases hx; exact ⟨_, h0, rfl, hk⟩
  · cases hx

theorem cat_of {a b x : List UInt8} {B : List UInt8 → Prop} (hx : scat a b = some x) (hk : B x) : ∃ r, a.length + b.length ≤ 9223372036854775807 ∧ r = a ++ b ∧ B r := by
  unfold scat at hx
  split at hx
  · rename_i h0; cases hx; exact ⟨_, h0, rfl, hk⟩
  · cases hx

/-- A bound of a cut. -/
inductive Bd : Option AV → Int → Int → Prop where
  | none (d : Int) : Bd none d d
  | int (k : IntKind) (n d : Int) : Bd (some (.int k n)) n d

theorem cut_s {s x : List UInt8} {lo hi : Option AV} {a b : Int} {B : List UInt8 → Prop} (hx : scut s a b = some x) (ha : Bd lo a 0) (hb : Bd hi b s.length) (hk : B x) : ∃ r, (∃ l h, boundA hi s.length s.length = some h ∧ boundA lo 0 h = some l ∧ r = (s.drop l).take (h - l)) ∧ B r := by
  unfold scut at hx
  split at hx
  · rename_i h0
    obtain ⟨h1, h2, h3⟩ := h0
    cases hx
    refine ⟨_, ⟨a.toNat, b.toNat, ?_, ?_, rfl⟩, hk⟩
    · cases hb with
      | none => simp [boundA]
      | int k n => simp [boundA]; omega
    · cases ha with
      | none => simp [boundA]
      | int k n => simp [boundA]; omega
  · cases hx

theorem cut_l {α : Type} {l x : List α} {f : α → List AV} {sz : Nat} {lo hi : Option AV} {a b : Int} {B : List (List AV) → Prop} (hx : scut l a b = some x) (ha : Bd lo a 0) (hb : Bd hi b l.length) (hf : ∀ x, okElem sz (f x) = true) (hk : B (x.map f)) :
    ∃ r, (∃ i h, boundA hi (l.map f).length (l.map f).length = some h ∧ boundA lo 0 h = some i ∧ (i < (l.map f).length → ((l.map f).getD i []).length = sz) ∧ r = ((l.map f).drop i).take (h - i)) ∧ B r := by
  unfold scut at hx
  split at hx
  · rename_i h0
    obtain ⟨h1, h2, h3⟩ := h0
    cases hx
    refine ⟨_, ⟨a.toNat, b.toNat, ?_, ?_, ?_, ?_⟩, hk⟩
    · cases hb with
      | none => simp [boundA]
      | int k n => simp [boundA]; omega
    · cases ha with
      | none => simp [boundA]
      | int k n => simp [boundA]; omega
    · intro hi
      rw [List.length_map] at hi
      have := hf l[a.toNat]
      simp only [okElem, Bool.and_eq_true, beq_iff_eq] at this
      simp only [List.getD, List.getElem?_map, List.getElem?_eq_getElem hi, Option.map_some, Option.getD_some]
      exact this.1
    · rw [List.map_take, List.map_drop]
  · cases hx

theorem app_len {α : Type} {l ys r : List α} {b : Nat} (h : app b l ys = some r) : (l.length + ys.length) * b ≤ 140737488355328 ∧ l.length + ys.length ≤ 140737488355328 ∧ r = l ++ ys := by
  unfold app at h
  split at h
  · rename_i h0; cases h; exact ⟨h0.1, h0.2, rfl⟩
  · cases h

theorem all_ok {α : Type} {f : α → List AV} {sz : Nat} (hf : ∀ x, okElem sz (f x) = true) (l : List α) : (l.map f).all (okElem sz) = true := by
  simp [List.all_eq_true, hf]

theorem app_tip {α : Type} {l ys r : List α} {f : α → List AV} {b sz n : Nat} {es es' : List (List AV)} {K : List (List AV) → Nat → Prop} (h : app b l ys = some r) (hf : ∀ x, okElem sz (f x) = true) (he : es = l.map f) (he' : es' = ys.map f) (hn : n = l.length * sz)
    (hK : K (r.map f) (r.length * sz)) : AppT n es es' sz b (EsK (es ++ es') fun r => ∃ n, n = (es ++ es').length * sz ∧ K r n) := by
  obtain ⟨h1, h2, rfl⟩ := app_len h
  subst he; subst he'
  refine ⟨⟨by rw [List.length_map]; exact hn, by simp only [List.length_map]; exact h1, by simp only [List.length_map]; exact h2, all_ok hf _, all_ok hf _⟩, (l ++ ys).map f, by simp, (l ++ ys).length * sz, by simp, hK⟩

theorem app_nil {α : Type} {ys r : List α} {f : α → List AV} {b sz : Nat} {es' : List (List AV)} {K : List (List AV) → Nat → Prop} (h : app b ([] : List α) ys = some r) (hf : ∀ x, okElem sz (f x) = true) (he' : es' = ys.map f)
    (hK : K (r.map f) (r.length * sz)) : AppN es' sz b (EsK es' fun r => ∃ n, n = es'.length * sz ∧ K r n) := by
  obtain ⟨h1, h2, e⟩ := app_len h
  subst he'
  simp only [List.length_nil, Nat.zero_add] at h1 h2
  refine ⟨⟨by simp only [List.length_map]; exact h1, by simp only [List.length_map]; exact h2, all_ok hf _⟩, r.map f, by rw [e]; rfl, r.length * sz, by rw [e]; simp, hK⟩

/-! Values that are not known, in front of others. -/
abbrev u2 (l : List AV) : List AV := .unk :: .unk :: l
abbrev u4 (l : List AV) : List AV := u2 (u2 l)
abbrev u8 (l : List AV) : List AV := u4 (u4 l)
abbrev u16 (l : List AV) : List AV := u8 (u8 l)
abbrev u32 (l : List AV) : List AV := u16 (u16 l)
abbrev u64 (l : List AV) : List AV := u32 (u32 l)
section
variable {h : List AObj} {L : List (Option Nat)} {xs ys : List AV}
theorem VWs.u2 {a b : AV} (hv : VWs h L xs ys) : VWs h L (Abs.u2 xs) (a :: b :: ys) := .cons (.unk _) (.cons (.unk _) hv)
theorem VWs.u4 {a0 a1 a2 a3 : AV} (hv : VWs h L xs ys) : VWs h L (Abs.u4 xs) (a0 :: a1 :: a2 :: a3 :: ys) := .u2 (.u2 hv)
theorem VWs.u8 {a0 a1 a2 a3 a4 a5 a6 a7 : AV} (hv : VWs h L xs ys) : VWs h L (Abs.u8 xs) (a0 :: a1 :: a2 :: a3 :: a4 :: a5 :: a6 :: a7 :: ys) := .u4 (.u4 hv)
theorem VWs.u16 {a0 a1 a2 a3 a4 a5 a6 a7 a8 a9 a10 a11 a12 a13 a14 a15 : AV} (hv : VWs h L xs ys) : VWs h L (Abs.u16 xs) (a0 :: a1 :: a2 :: a3 :: a4 :: a5 :: a6 :: a7 :: a8 :: a9 :: a10 :: a11 :: a12 :: a13 :: a14 :: a15 :: ys) := .u8 (.u8 hv)
theorem VWs.u32 {a0 a1 a2 a3 a4 a5 a6 a7 a8 a9 a10 a11 a12 a13 a14 a15 a16 a17 a18 a19 a20 a21 a22 a23 a24 a25 a26 a27 a28 a29 a30 a31 : AV} (hv : VWs h L xs ys) : VWs h L (Abs.u32 xs) (a0 :: a1 :: a2 :: a3 :: a4 :: a5 :: a6 :: a7 :: a8 :: a9 :: a10 :: a11 :: a12 :: a13 :: a14 :: a15 :: a16 :: a17 :: a18 :: a19 :: a20 :: a21 :: a22 :: a23 :: a24 :: a25 :: a26 :: a27 :: a28 :: a29 :: a30 :: a31 :: ys) := .u16 (.u16 hv)
theorem VWs.u64 {a0 a1 a2 a3 a4 a5 a6 a7 a8 a9 a10 a11 a12 a13 a14 a15 a16 a17 a18 a19 a20 a21 a22 a23 a24 a25 a26 a27 a28 a29 a30 a31 a32 a33 a34 a35 a36 a37 a38 a39 a40 a41 a42 a43 a44 a45 a46 a47 a48 a49 a50 a51 a52 a53 a54 a55 a56 a57 a58 a59 a60 a61 a62 a63 : AV} (hv : VWs h L xs ys) : VWs h L (Abs.u64 xs) (a0 :: a1 :: a2 :: a3 :: a4 :: a5 :: a6 :: a7 :: a8 :: a9 :: a10 :: a11 :: a12 :: a13 :: a14 :: a15 :: a16 :: a17 :: a18 :: a19 :: a20 :: a21 :: a22 :: a23 :: a24 :: a25 :: a26 :: a27 :: a28 :: a29 :: a30 :: a31 :: a32 :: a33 :: a34 :: a35 :: a36 :: a37 :: a38 :: a39 :: a40 :: a41 :: a42 :: a43 :: a44 :: a45 :: a46 :: a47 :: a48 :: a49 :: a50 :: a51 :: a52 :: a53 :: a54 :: a55 :: a56 :: a57 :: a58 :: a59 :: a60 :: a61 :: a62 :: a63 :: ys) := .u32 (.u32 hv)
end

/-! ### Starts and ends -/

theorem acalls_start {P : Program} {f : Nat} {fn : Func} {c : Code} {args : List AV} {H H' : List AObj} {res : AV} (wk : Bool) (hf : P.funcs[f]? = some fn) (hb : fn.body = some c) (hlen : args.length ≤ fn.ntmps)
    (h : ∀ Q : QT, (∀ e t h, retQ P fn.results.toList wk H res H' e t h → Q e t h) → ∀ t, startF fn.ntmps args (fun u => t = u) → AW P H.length c Q t H) : ACalls P f args H res H' := by
  refine acalls_AW wk hf hb hlen ?_
  exact h _ (fun _ _ _ h => h) _ (by unfold startF; rw [fL_eq])

theorem retPure {P : Program} {τ : Nat → TI} {rs : List ResultVar} {wk : Bool} {res : AV} {t : List AV} {h : List AObj} (hτ : τ = TI.of P) (hr : ∀ g, ren g res = res) (hq : resT τ t h rs fun xs => fAV (resV wk xs) fun v => Ends v res) : RetW P rs wk [] res [] t h := by
  subst hτ
  obtain ⟨xs, h1, h2⟩ := resT_sound _ _ hq
  rw [fAV_eq] at h2
  exact .inl ⟨[], xs, h1, by rw [hr]; exact h2, by simp, rfl, by simp, fun i hi => (by cases hi), fun l hl => (by cases hl), fun i l hi => by simp at hi⟩

inductive RetOs (g : Nat → Nat) (h : List AObj) : List Nat → List AObj → Prop where
  | nil : RetOs g h [] []
  | cons {l : Nat} {o : AObj} {ls : List Nat} {os : List AObj} : renO g o = obj? h l → RetOs g h ls os → RetOs g h (l :: ls) (o :: os)

theorem RetOs.len {g : Nat → Nat} {h : List AObj} {ls : List Nat} {os : List AObj} (hv : RetOs g h ls os) : os.length = ls.length := by
  induction hv with
  | nil => rfl
  | cons _ _ ih => simp [ih]
theorem RetOs.get {g : Nat → Nat} {h : List AObj} {ls : List Nat} {os : List AObj} (hv : RetOs g h ls os) : ∀ i l, ls[i]? = some l → obj? h l = renO g (obj? os i) := by
  induction hv with
  | nil => intro i l hi; simp at hi
  | cons h1 _ ih => intro i l hi; cases i with
    | zero => simp at hi; subst hi; exact h1.symm
    | succ i => exact ih i l (by simpa using hi)

def okRet (n m : Nat) (L : List Nat) : Bool := decide L.Nodup && decide (n ≤ L.length) && (List.range n).all (fun i => L[i]? == some i) && L.all (fun l => decide (l < m))

theorem retObj {P : Program} {τ : Nat → TI} {rs : List ResultVar} {wk : Bool} {H H' : List AObj} {res : AV} {t : List AV} {h : List AObj} (hτ : τ = TI.of P) (L : List Nat) (hL : okRet H.length h.length L = true) (hO : RetOs (nm L h.length) h L H')
    (hq : resT τ t h rs fun xs => fAV (resV wk xs) fun v => Ends v (ren (nm L h.length) res)) : ∃ L, RetQ P rs wk L H res H' ⟨t, h⟩ := by
  subst hτ
  obtain ⟨xs, h1, h2⟩ := resT_sound _ _ hq
  rw [fAV_eq] at h2
  simp only [okRet, Bool.and_eq_true, List.all_eq_true, decide_eq_true_eq] at hL
  obtain ⟨⟨⟨q1, q2⟩, q3⟩, q4⟩ := hL
  exact ⟨L, xs, h1, h2, q1, hO.len, q2, fun i hi => by simpa using q3 i (by simpa using hi), q4, hO.get⟩

theorem retW {P : Program} {rs : List ResultVar} {wk : Bool} {H H' : List AObj} {res : AV} {t : List AV} {h : List AObj} (t' : List AV) (h' : List AObj) (hw : Le H.length t h t' h') (hq : ∃ L, RetQ P rs wk L H res H' ⟨t', h'⟩) : RetW P rs wk H res H' t h := .inr ⟨t', h', hw, hq⟩

/-! ### Calls -/

theorem ACalls.args {P : Program} {f : Nat} {args args' : List AV} {H H' : List AObj} {res : AV} (hc : ACalls P f args H res H') (hs : SWs args' args) : ACalls P f args' H res H' :=
  fun κ pv0 w vs hen hl hr => hc κ pv0 w vs hen (hl.trans hs.len) fun j hj => (hs.get j).rel (hr j (by rw [hs.len]; exact hj))

inductive PassO (g : Nat → Nat) (h : List AObj) : List Nat → List AObj → Prop where
  | nil : PassO g h [] []
  | cons {l : Nat} {o : AObj} {ls : List Nat} {os : List AObj} : renO g o = obj? h l → PassO g h ls os → PassO g h (l :: ls) (o :: os)
theorem PassO.len {g : Nat → Nat} {h : List AObj} {ls : List Nat} {os : List AObj} (hv : PassO g h ls os) : os.length = ls.length := by
  induction hv with
  | nil => rfl
  | cons _ _ ih => simp [ih]
theorem PassO.get {g : Nat → Nat} {h : List AObj} {ls : List Nat} {os : List AObj} (hv : PassO g h ls os) : ∀ i l, ls[i]? = some l → obj? h l = renO g (obj? os i) := by
  induction hv with
  | nil => intro i l hi; simp at hi
  | cons h1 _ ih => intro i l hi; cases i with
    | zero => simp at hi; subst hi; exact h1.symm
    | succ i => exact ih i l (by simpa using hi)

def okPass (h : List AObj) (ρ ks : List Nat) (n : Nat) : Bool := decide (ρ ++ ks).Nodup && ρ.all (fun l => decide (l < h.length)) && ks.all (fun l => isRes (obj? h l)) && decide (n = (ρ ++ ks).length)

def renOs (g : Nat → Nat) : List AObj → List AObj
  | [] => []
  | o :: os => renO g o :: renOs g os
theorem renOs_map (g : Nat → Nat) : ∀ os, renOs g os = os.map (renO g)
  | [] => rfl
  | o :: os => by simp [renOs, renOs_map g os]

theorem rcons {g : Nat → Nat} {o o' : AObj} {os os' : List AObj} (h1 : renO g o = o') (h2 : renOs g os = os') : renOs g (o :: os) = o' :: os' := by simp only [renOs, h1, h2]

theorem call_gen {P : Program} {f : Nat} {args : List AV} {dst : Option Tmp} {t : List AV} {h : List AObj} {k : Nat} {K : Nat → List Nat → List Wr → Prop} (ρ ks : List Nat) (aargs an : List AV) {H H' : List AObj} {res rn : AV} {Hn : List AObj}
    (hc : ACalls P f aargs H res H') (hok : okFn P f = true) (hp : okPass h ρ ks H'.length = true) (hO : PassO (nm (ρ ++ ks) h.length) h ρ H) (ha : renL (nm (ρ ++ ks) h.length) aargs = an) (hs : SWs args an)
    (hr : ren (nm (ρ ++ ks) h.length) res = rn) (hH : renOs (nm (ρ ++ ks) h.length) H' = Hn) (hK : K (k + ks.length) (ρ ++ ks) (wrObjs (ρ ++ ks) Hn ++ toDst dst rn)) : ACallU P f args dst t h k K := by
  simp only [okPass, Bool.and_eq_true, List.all_eq_true, decide_eq_true_eq] at hp
  obtain ⟨⟨⟨q1, q2⟩, q3⟩, q4⟩ := hp
  refine ⟨⟨hok, ρ, ks, aargs, H, res, H', ⟨q1, hO.len, q2, q3, hO.get⟩, q4, by rw [← renL_map, ha]; exact hs, hc, ?_⟩⟩
  rw [hr, ← renOs_map, hH]; exact hK

theorem call_pur {P : Program} {f : Nat} {args : List AV} {dst : Option Tmp} {t : List AV} {h : List AObj} {k : Nat} {K : Nat → List Nat → List Wr → Prop} {aargs : List AV} {res : AV}
    (hc : ACalls P f aargs [] res []) (hok : okFn P f = true) (hs : SWs args aargs) (ha : ∀ g, renL g aargs = aargs) (hr : ∀ g, ren g res = res) (hK : K k [] (toDst dst res)) : ACallU P f args dst t h k K := by
  refine ⟨⟨hok, [], [], aargs, [], res, [], ⟨by simp, rfl, fun l hl => (by cases hl), fun l hl => (by cases hl), fun i l hi => by simp at hi⟩, rfl, by rw [← renL_map, ha]; exact hs, hc, ?_⟩⟩
  simp only [List.append_nil, List.length_nil, Nat.add_zero, List.map_nil, wrObjs, List.nil_append, hr]
  exact hK

/-! ### Loops and ways that meet -/

theorem AW.loopS {σ ρ : Type} {P : Program} {m : Nat} {c : Code} {Q : QT} {t : List AV} {h : List AObj} (L : Nat → σ → Option ρ) (tT : σ → List AV) (tH : σ → List AObj) {out : ρ} {n : Nat} {s0 : σ} (h0 : L n s0 = some out) (hz : ∀ s, L 0 s = none)
    (hw0 : Le m t h (tT s0) (tH s0))
    (round : ∀ n s, L (n + 1) s = some out → ∀ K : List AV → List AObj → Prop, (∀ t' h' s', L n s' = some out → Le m t' h' (tT s') (tH s') → K t' h') → AW P m c (seqQ K Q) (tT s) (tH s)) : AW P m (.loop c) Q t h := by
  refine AW.loop (fun n t h => ∃ s, L n s = some out ∧ Le m t h (tT s) (tH s)) (n := n) ⟨s0, h0, hw0⟩ ?_
  rintro n t h ⟨s, hs, hw⟩
  refine AW.le hw ?_
  cases n with
  | zero => rw [hz] at hs; cases hs
  | succ n => exact round n s hs _ fun t' h' s' g1 g2 => ⟨n, by omega, s', g1, g2⟩

end Abs
end Go.Proofs.YtiiaccpcoclklaaGreat
namespace Go.Proofs.YtiiaccpcoclklaaGreat
namespace Abs
open Go

/-- With fuel enough, the answer is v. -/
def Ev {α : Type} (f : Nat → Option α) (v : α) : Prop := ∃ N, ∀ n, N ≤ n → f n = some v

theorem Ev.ret {α : Type} (v : α) : Ev (fun _ => some v) v := ⟨0, fun _ _ => rfl⟩
theorem Ev.of {α : Type} {f : Nat → Option α} {v : α} (h : ∀ n, f n = some v) : Ev f v := ⟨0, fun n _ => h n⟩
theorem Ev.bind {α β : Type} {f : Nat → Option α} {g : α → Nat → Option β} {a : α} {b : β} (h1 : Ev f a) (h2 : Ev (g a) b) : Ev (fun n => (f n).bind fun x => g x n) b := by
  obtain ⟨N, hN⟩ := h1
  obtain ⟨M, hM⟩ := h2
  refine ⟨max N M, fun n hn => ?_⟩
  show (f n).bind (fun x => g x n) = some b
  rw [hN n (by omega)]
  exact hM n (by omega)
theorem Ev.succ {α : Type} {f : Nat → Option α} {v : α} (h : Ev (fun n => f (n + 1)) v) : Ev f v := by
  obtain ⟨N, hN⟩ := h
  refine ⟨N + 1, fun n hn => ?_⟩
  cases n with
  | zero => omega
  | succ n => exact hN n (by omega)
theorem Ev.eq {α : Type} {f : Nat → Option α} {v w : α} (h : Ev f v) (e : v = w) : Ev f w := e ▸ h
theorem Ev.ite {α : Type} {b : Bool} {f g : Nat → Option α} {v : α} (h1 : b = true → Ev f v) (h2 : b = false → Ev g v) : Ev (fun n => cond b (f n) (g n)) v := by
  cases b
  · exact h2 rfl
  · exact h1 rfl
theorem Ev.pos {α : Type} {b : Bool} {f g : Nat → Option α} {v : α} (hb : b = true) (h1 : Ev f v) : Ev (fun n => cond b (f n) (g n)) v := by subst hb; exact h1
theorem Ev.neg {α : Type} {b : Bool} {f g : Nat → Option α} {v : α} (hb : b = false) (h1 : Ev g v) : Ev (fun n => cond b (f n) (g n)) v := by subst hb; exact h1
theorem Ev.uniq {α : Type} {f : Nat → Option α} {v w : α} (h1 : Ev f v) (h2 : Ev f w) : v = w := by
  obtain ⟨N, hN⟩ := h1
  obtain ⟨M, hM⟩ := h2
  have := hN (max N M) (by omega)
  rw [hM (max N M) (by omega)] at this
  exact (Option.some.inj this).symm

/-- What a loop over a list comes to. -/
def runL {α σ τ ρ : Type} (st : α → σ → LR σ ρ) (fin : σ → τ) : List α → σ → LR τ ρ
  | [], s => .nx (fin s)
  | x :: xs, s => match st x s with
    | .nx s' => runL st fin xs s'
    | .rt r => .rt r

theorem idx_at {α : Type} (pre : List α) (x : α) (suf : List α) : idx (pre ++ x :: suf) (pre.length : Int) = some x := by
  unfold idx
  rw [if_pos (by omega)]
  simp

theorem loopEvAt {α σ τ ρ : Type} (l : List α) (L : Nat → Nat → Int → σ → Option (LR τ ρ)) (step : Nat → α → σ → Option (LR σ ρ)) (st : α → σ → LR σ ρ) (fin : σ → τ) (I : List α → σ → Prop)
    (hL : ∀ n k i s, L n (k + 1) i s = cond (decide (i < (l.length : Int))) ((idx l i).bind fun x => (step n x s).bind (LR.el (fun s' => L n k (i + 1) s') (fun r => some (.rt r)))) (some (.nx (fin s))))
    (hI : ∀ x suf s, x ∈ l → I (x :: suf) s → Ev (fun n => step n x s) (st x s) ∧ ∀ s', st x s = .nx s' → I suf s') (pre suf : List α) (hl : l = pre ++ suf) {s0 : σ} (h0 : I suf s0) : Ev (fun n => L n n (pre.length : Int) s0) (runL st fin suf s0) := by
  have key : ∀ (suf pre : List α) (s : σ), l = pre ++ suf → I suf s → ∃ N, ∀ n, N ≤ n → ∀ k, suf.length + 1 ≤ k → L n k (pre.length : Int) s = some (runL st fin suf s) := by
    intro suf
    induction suf with
    | nil =>
      intro pre s hl _
      refine ⟨0, fun n _ k hk => ?_⟩
      cases k with
      | zero => simp at hk
      | succ k =>
        rw [hL, decide_eq_false (by rw [hl]; simp)]
        rfl
    | cons x suf ih =>
      intro pre s hl hIs
      obtain ⟨⟨N1, h1⟩, h2⟩ := hI x suf s (by rw [hl]; simp) hIs
      replace h1 : ∀ n, N1 ≤ n → step n x s = some (st x s) := h1
      have hi : decide ((pre.length : Int) < (l.length : Int)) = true := decide_eq_true (by rw [hl]; simp; omega)
      have hx : idx l (pre.length : Int) = some x := by rw [hl]; exact idx_at pre x suf
      cases hs : st x s with
      | rt r =>
        refine ⟨N1, fun n hn k hk => ?_⟩
        cases k with
        | zero => simp at hk
        | succ k =>
          rw [hL, hi, hx]
          simp only [cond_true, Option.bind_some]
          rw [h1 n hn, hs]
          simp [runL, hs]
      | nx s' =>
        obtain ⟨N2, h3⟩ := ih (pre ++ [x]) s' (by rw [hl]; simp) (h2 s' hs)
        refine ⟨max N1 N2, fun n hn k hk => ?_⟩
        cases k with
        | zero => simp at hk
        | succ k =>
          rw [hL, hi, hx]
          simp only [cond_true, Option.bind_some]
          rw [h1 n (by omega), hs]
          simp only [Option.bind_some, LR.el]
          have := h3 n (by omega) k (by simp at hk; omega)
          simp only [List.length_append, List.length_singleton, Int.natCast_add, Int.natCast_one] at this
          rw [this]
          simp [runL, hs]
  obtain ⟨N, hN⟩ := key suf pre s0 hl h0
  exact ⟨max N (suf.length + 1), fun n hn => hN n (by omega) n (by omega)⟩
theorem loopEv {α σ τ ρ : Type} (l : List α) (L : Nat → Nat → Int → σ → Option (LR τ ρ)) (step : Nat → α → σ → Option (LR σ ρ)) (st : α → σ → LR σ ρ) (fin : σ → τ) (I : List α → σ → Prop)
    (hL : ∀ n k i s, L n (k + 1) i s = cond (decide (i < (l.length : Int))) ((idx l i).bind fun x => (step n x s).bind (LR.el (fun s' => L n k (i + 1) s') (fun r => some (.rt r)))) (some (.nx (fin s))))
    (hI : ∀ x suf s, x ∈ l → I (x :: suf) s → Ev (fun n => step n x s) (st x s) ∧ ∀ s', st x s = .nx s' → I suf s') {s0 : σ} (h0 : I l s0) : Ev (fun n => L n n 0 s0) (runL st fin l s0) :=
  loopEvAt l L step st fin I hL hI [] l rfl h0

/-- A loop without state that asks each element and stops with r at the first one that is 'bad'. -/
theorem runL_stop {α ρ : Type} (p : α → Bool) (r : ρ) : ∀ (l : List α) (u : Unit), runL (τ := Unit) (fun x _ => cond (p x) (.rt r) (.nx ())) (fun _ => ()) l u = cond (l.any p) (.rt r) (.nx ())
  | [], _ => rfl
  | x :: xs, u => by
    simp only [runL, List.any_cons]
    cases p x
    · exact runL_stop p r xs ()
    · rfl
theorem loopStopAt {α ρ : Type} (l : List α) (L : Nat → Nat → Int → Option (LR Unit ρ)) (step : Nat → α → Option Bool) (p : α → Bool) (r : ρ)
    (hL : ∀ n k i, L n (k + 1) i = cond (decide (i < (l.length : Int))) ((idx l i).bind fun x => (step n x).bind fun b => cond b (some (.rt r)) (L n k (i + 1))) (some (.nx ())))
    (hp : ∀ x ∈ l, Ev (fun n => step n x) (p x)) (pre suf : List α) (hl : l = pre ++ suf) : Ev (fun n => L n n (pre.length : Int)) (cond (suf.any p) (.rt r) (.nx ())) := by
  have := loopEvAt l (fun n k i (_ : Unit) => L n k i) (fun n x _ => (step n x).bind fun b => cond b (some (.rt r)) (some (.nx ()))) (fun x _ => cond (p x) (.rt r) (.nx ())) (fun _ => ()) (fun _ _ => True)
    (fun n k i s => by
      rw [hL]
      congr 1
      congr 1
      funext x
      cases step n x with
      | none => rfl
      | some b => cases b <;> rfl)
    (fun x suf s hx _ => ⟨by
      refine Ev.bind (hp x hx) ?_
      cases p x
      · exact Ev.ret _
      · exact Ev.ret _, fun _ _ => trivial⟩) pre suf hl (s0 := ()) trivial
  rw [runL_stop] at this
  exact this
theorem loopStop {α ρ : Type} (l : List α) (L : Nat → Nat → Int → Option (LR Unit ρ)) (step : Nat → α → Option Bool) (p : α → Bool) (r : ρ)
    (hL : ∀ n k i, L n (k + 1) i = cond (decide (i < (l.length : Int))) ((idx l i).bind fun x => (step n x).bind fun b => cond b (some (.rt r)) (L n k (i + 1))) (some (.nx ())))
    (hp : ∀ x ∈ l, Ev (fun n => step n x) (p x)) : Ev (fun n => L n n 0) (cond (l.any p) (.rt r) (.nx ())) := loopStopAt l L step p r hL hp [] l rfl

/-- The same where a round looks at its number. -/
def runI {α σ τ ρ : Type} (st : Int → α → σ → LR σ ρ) (fin : σ → τ) : Int → List α → σ → LR τ ρ
  | _, [], s => .nx (fin s)
  | i, x :: xs, s => match st i x s with
    | .nx s' => runI st fin (i + 1) xs s'
    | .rt r => .rt r

theorem loopEvI {α σ τ ρ : Type} (l : List α) (L : Nat → Nat → Int → σ → Option (LR τ ρ)) (step : Nat → Int → α → σ → Option (LR σ ρ)) (st : Int → α → σ → LR σ ρ) (fin : σ → τ) (I : Int → List α → σ → Prop)
    (hL : ∀ n k i s, L n (k + 1) i s = cond (decide (i < (l.length : Int))) ((idx l i).bind fun x => (step n i x s).bind (LR.el (fun s' => L n k (i + 1) s') (fun r => some (.rt r)))) (some (.nx (fin s))))
    (hI : ∀ i x suf s, x ∈ l → I i (x :: suf) s → Ev (fun n => step n i x s) (st i x s) ∧ ∀ s', st i x s = .nx s' → I (i + 1) suf s') {s0 : σ} (h0 : I 0 l s0) : Ev (fun n => L n n 0 s0) (runI st fin 0 l s0) := by
  have key : ∀ (suf pre : List α) (s : σ), l = pre ++ suf → I (pre.length : Int) suf s → ∃ N, ∀ n, N ≤ n → ∀ k, suf.length + 1 ≤ k → L n k (pre.length : Int) s = some (runI st fin (pre.length : Int) suf s) := by
    intro suf
    induction suf with
    | nil =>
      intro pre s hl _
      refine ⟨0, fun n _ k hk => ?_⟩
      cases k with
      | zero => simp at hk
      | succ k =>
        rw [hL, decide_eq_false (by rw [hl]; simp)]
        rfl
    | cons x suf ih =>
      intro pre s hl hIs
      obtain ⟨⟨N1, h1⟩, h2⟩ := hI _ x suf s (by rw [hl]; simp) hIs
      replace h1 : ∀ n, N1 ≤ n → step n (pre.length : Int) x s = some (st (pre.length : Int) x s) := h1
      have hi : decide ((pre.length : Int) < (l.length : Int)) = true := decide_eq_true (by rw [hl]; simp; omega)
      have hx : idx l (pre.length : Int) = some x := by rw [hl]; exact idx_at pre x suf
      cases hs : st (pre.length : Int) x s with
      | rt r =>
        refine ⟨N1, fun n hn k hk => ?_⟩
        cases k with
        | zero => simp at hk
        | succ k =>
          rw [hL, hi, hx]
          simp only [cond_true, Option.bind_some]
          rw [h1 n hn, hs]
          simp [runI, hs]
      | nx s' =>
        have h3 := h2 s' hs
        have e : ((pre ++ [x]).length : Int) = (pre.length : Int) + 1 := by simp
        obtain ⟨N2, h4⟩ := ih (pre ++ [x]) s' (by rw [hl]; simp) (by rw [e]; exact h3)
        refine ⟨max N1 N2, fun n hn k hk => ?_⟩
        cases k with
        | zero => simp at hk
        | succ k =>
          rw [hL, hi, hx]
          simp only [cond_true, Option.bind_some]
          rw [h1 n (by omega), hs]
          simp only [Option.bind_some, LR.el]
          have := h4 n (by omega) k (by simp at hk; omega)
          rw [e] at this
          rw [this]
          simp [runI, hs]
  obtain ⟨N, hN⟩ := key l [] s0 rfl h0
  exact ⟨max N (l.length + 1), fun n hn => hN n (by omega) n (by omega)⟩

/-- The number of the first element that fits, or -1. -/
def findI {α : Type} (p : α → Bool) : Int → List α → Int
  | _, [] => -1
  | i, x :: xs => cond (p x) i (findI p (i + 1) xs)
theorem runI_find {α : Type} (p : α → Bool) : ∀ (l : List α) (i : Int), (match runI (τ := Unit) (fun i x _ => cond (p x) (.rt i) (.nx ())) (fun _ => ()) i l () with | .nx _ => (-1 : Int) | .rt r => r) = findI p i l
  | [], _ => rfl
  | x :: xs, i => by
    simp only [runI, findI]
    cases p x
    · exact runI_find p xs (i + 1)
    · rfl
theorem loopFind {α : Type} (l : List α) (L : Nat → Nat → Int → Option (LR Unit Int)) (step : Nat → α → Option Bool) (p : α → Bool)
    (hL : ∀ n k i, L n (k + 1) i = cond (decide (i < (l.length : Int))) ((idx l i).bind fun x => (step n x).bind fun b => cond b (some (.rt i)) (L n k (i + 1))) (some (.nx ())))
    (hp : ∀ x ∈ l, Ev (fun n => step n x) (p x)) : Ev (fun n => (L n n 0).bind (LR.el (fun _ => some (-1)) (fun r => some r))) (findI p 0 l) := by
  have := loopEvI l (fun n k i (_ : Unit) => L n k i) (fun n i x _ => (step n x).bind fun b => cond b (some (.rt i)) (some (.nx ()))) (fun i x _ => cond (p x) (.rt i) (.nx ())) (fun _ => ()) (fun _ _ _ => True)
    (fun n k i s => by
      rw [hL]
      congr 1
      congr 1
      funext x
      cases step n x with
      | none => rfl
      | some b => cases b <;> rfl)
    (fun i x suf s hx _ => ⟨by
      refine Ev.bind (hp x hx) ?_
      cases p x
      · exact Ev.ret _
      · exact Ev.ret _, fun _ _ => trivial⟩) (s0 := ()) trivial
  refine Ev.bind this ?_
  rw [← runI_find]
  generalize runI (τ := Unit) (fun i x _ => cond (p x) (.rt i) (.nx ())) (fun _ => ()) 0 l () = R
  cases R
  · exact Ev.ret _
  · exact Ev.ret _
theorem findI_ge {α : Type} (p : α → Bool) : ∀ (l : List α) (i : Int), 0 ≤ i → decide (0 ≤ findI p i l) = l.any p
  | [], _, _ => rfl
  | x :: xs, i, h => by
    have ih := findI_ge p xs (i + 1) (by omega)
    by_cases hx : p x = true
    · simp [findI, hx, h]
    · simp only [Bool.not_eq_true] at hx
      simpa [findI, hx] using ih
theorem findI_get {α : Type} (p : α → Bool) : ∀ (l pre : List α), (∃ x, l.find? p = some x ∧ p x = true ∧ 0 ≤ findI p (pre.length : Int) l ∧ idx (pre ++ l) (findI p (pre.length : Int) l) = some x) ∨ (l.find? p = none ∧ findI p (pre.length : Int) l = -1)
  | [], _ => .inr ⟨rfl, rfl⟩
  | x :: xs, pre => by
    simp only [findI, List.find?_cons]
    cases h : p x with
    | true => exact .inl ⟨x, rfl, h, by simp, idx_at pre x xs⟩
    | false =>
      have := findI_get p xs (pre ++ [x])
      simp only [List.length_append, List.length_singleton, Int.natCast_add, Int.natCast_one, List.append_assoc, List.singleton_append] at this
      exact this

theorem sidx_idx (s : List UInt8) (i : Int) : sidx s i = (idx s i).map fun c => (c.toNat : Int) := by
  unfold sidx idx
  by_cases h : 0 ≤ i
  · rw [if_pos h]
    by_cases h2 : i < s.length
    · rw [if_pos ⟨h, h2⟩]
      have : i.toNat < s.length := by omega
      simp [List.getD, List.getElem?_eq_getElem this]
    · rw [if_neg (fun hh => h2 hh.2), List.getElem?_eq_none (by omega)]; rfl
  · rw [if_neg (fun hh => h hh.1), if_neg h]; rfl

theorem wrap64 {n : Int} (h1 : -9223372036854775808 ≤ n) (h2 : n ≤ 9223372036854775807) : IntKind.wrap .i64 n = n := (w64_id h1 h2).symm
end Abs
end Go.Proofs.YtiiaccpcoclklaaGreat
namespace Go.Proofs.YtiiaccpcoclklaaGreat
namespace Abs
open Go Go.Proofs
def ti3 : TI := ⟨some 1, some false, false, false, false, false, false, some .i64, .no, [], [], some ([.int .i64 0]), some (.int .i64 0), none, none, none⟩
def ti4 : TI := ⟨some 1, some false, false, true, false, false, false, none, .no, [], [], some ([.bool false]), some (.bool false), none, none, none⟩
def ti5 : TI := ⟨some 1, some false, false, false, false, false, false, some .u8, .no, [], [], some ([.int .u8 0]), some (.int .u8 0), none, none, none⟩
def ti9 : TI := ⟨some 1, some false, false, false, true, false, false, none, .no, [], [], some ([.str []]), some (.str []), none, none, none⟩
def ti22 : TI := ⟨some 1, some false, false, false, false, false, true, none, .sl (some 2), [], [], some ([.slice [] .nils]), some (.slice [] .nils), some 2, some (91, 2, 40), none⟩
def ti23 : TI := ⟨some 1, some false, false, false, false, false, true, none, .sl (some 4), [], [], some ([.slice [] .nils]), some (.slice [] .nils), some 4, some (60, 4, 64), none⟩
def ti25 : TI := ⟨some 2, some true, false, false, false, true, false, none, .no, [some (0, 22), some (1, 23)], [some (0, 1), some (1, 1)], some ([.slice [] .nils, .slice [] .nils]), some (.agg ([.slice [] .nils, .slice [] .nils])), none, none, none⟩
def ti26 : TI := ⟨some 1, some false, false, false, false, false, true, none, .sl (some 3), [], [], some ([.slice [] .nils]), some (.slice [] .nils), some 3, some (28, 3, 48), none⟩
def ti28 : TI := ⟨some 3, some true, false, false, false, true, false, none, .no, [some (0, 3), some (1, 9), some (2, 26)], [some (0, 1), some (1, 1), some (2, 1)], some ([.int .i64 0, .str [], .slice [] .nils]), some (.agg ([.int .i64 0, .str [], .slice [] .nils])), none, none, none⟩
def ti29 : TI := ⟨some 1, some false, false, false, false, false, true, none, .sl (some 7), [], [], some ([.slice [] .nils]), some (.slice [] .nils), some 7, some (31, 7, 104), none⟩
def ti31 : TI := ⟨some 7, some true, false, false, false, true, false, none, .no, [some (0, 3), some (1, 9), some (2, 3), some (3, 28), some (6, 29)], [some (0, 1), some (1, 1), some (2, 1), some (3, 3), some (6, 1)], some ([.int .i64 0, .str [], .int .i64 0, .int .i64 0, .str [], .slice [] .nils, .slice [] .nils]), some (.agg ([.int .i64 0, .str [], .int .i64 0, .int .i64 0, .str [], .slice [] .nils, .slice [] .nils])), none, none, none⟩
def ti34 : TI := ⟨some 1, some false, false, false, false, false, true, none, .sl (some 1), [], [], some ([.slice [] .nils]), some (.slice [] .nils), some 1, some (3, 1, 8), none⟩
def ti35 : TI := ⟨some 1, some false, false, false, false, false, false, some .i64, .no, [], [], some ([.int .i64 0]), some (.int .i64 0), none, none, none⟩
def ti47 : TI := ⟨some 8, some true, false, false, false, true, false, none, .no, [some (0, 34), some (1, 31)], [some (0, 1), some (1, 7)], some ([.slice [] .nils, .int .i64 0, .str [], .int .i64 0, .int .i64 0, .str [], .slice [] .nils, .slice [] .nils]), some (.agg ([.slice [] .nils, .int .i64 0, .str [], .int .i64 0, .int .i64 0, .str [], .slice [] .nils, .slice [] .nils])), none, none, none⟩
def ti49 : TI := ⟨some 1, some false, false, false, false, false, true, none, .sl (some 1), [], [], some ([.slice [] .nils]), some (.slice [] .nils), some 1, some (9, 1, 16), none⟩
def ti60 : TI := ⟨some 4, some true, false, false, false, true, false, none, .no, [some (0, 9), some (1, 28)], [some (0, 1), some (1, 3)], some ([.str [], .int .i64 0, .str [], .slice [] .nils]), some (.agg ([.str [], .int .i64 0, .str [], .slice [] .nils])), none, none, none⟩
def ti63 : TI := ⟨some 8, some true, false, false, false, true, false, none, .no, [some (0, 9), some (1, 31)], [some (0, 1), some (1, 7)], some ([.str [], .int .i64 0, .str [], .int .i64 0, .int .i64 0, .str [], .slice [] .nils, .slice [] .nils]), some (.agg ([.str [], .int .i64 0, .str [], .int .i64 0, .int .i64 0, .str [], .slice [] .nils, .slice [] .nils])), none, none, none⟩
def ti64 : TI := ⟨some 1, some false, false, false, false, false, true, none, .sl (some 8), [], [], some ([.slice [] .nils]), some (.slice [] .nils), some 8, some (63, 8, 120), none⟩
def ti72 : TI := ⟨some 1, some false, false, false, false, false, false, none, .no, [], [], some ([.nilFunc]), some (.nilFunc), none, none, none⟩
def ti83 : TI := ⟨some 17, some true, false, false, false, true, false, none, .no, [some (0, 25), some (2, 31), some (9, 31), some (16, 9)], [some (0, 2), some (2, 7), some (9, 7), some (16, 1)], some ([.slice [] .nils, .slice [] .nils, .int .i64 0, .str [], .int .i64 0, .int .i64 0, .str [], .slice [] .nils, .slice [] .nils, .int .i64 0, .str [], .int .i64 0, .int .i64 0, .str [], .slice [] .nils, .slice [] .nils, .str []]), some (.agg ([.slice [] .nils, .slice [] .nils, .int .i64 0, .str [], .int .i64 0, .int .i64 0, .str [], .slice [] .nils, .slice [] .nils, .int .i64 0, .str [], .int .i64 0, .int .i64 0, .str [], .slice [] .nils, .slice [] .nils, .str []])), none, none, none⟩
def ti91 : TI := ⟨some 2, some true, false, false, false, true, false, none, .no, [some (0, 9), some (1, 49)], [some (0, 1), some (1, 1)], some ([.str [], .slice [] .nils]), some (.agg ([.str [], .slice [] .nils])), none, none, none⟩
def ti93 : TI := ⟨some 1, some false, false, false, false, false, false, none, .no, [], [], some ([.nilFunc]), some (.nilFunc), none, none, none⟩
def ti95 : TI := ⟨some 1, some false, true, false, false, false, false, none, .no, [], [], some ([.nilp]), some (.nilp), none, none, none⟩
def ti99 : TI := ⟨some 1, some false, false, false, false, false, false, none, .no, [], [], some ([.unk]), some (.unk), none, none, some 28⟩
def ti100 : TI := ⟨some 1, some false, false, false, false, false, false, none, .no, [], [], some ([.unk]), some (.unk), none, none, some 4⟩
def ti102 : TI := ⟨some 1, some false, false, false, false, false, false, none, .no, [], [], some ([.nilFunc]), some (.nilFunc), none, none, none⟩
def ti103 : TI := ⟨some 57, some true, false, false, false, false, false, none, .arr 57 (some 1), [], [], some (List.replicate 57 (.nilFunc)), some (.agg (List.replicate 57 (.nilFunc))), none, none, none⟩
def ti105 : TI := ⟨some 60, some true, false, false, false, true, false, none, .no, [some (0, 99), some (1, 100), some (2, 103), some (59, 34)], [some (0, 1), some (1, 1), some (2, 57), some (59, 1)], some ([.unk, .unk, .nilFunc, .nilFunc, .nilFunc, .nilFunc, .nilFunc, .nilFunc, .nilFunc, .nilFunc, .nilFunc, .nilFunc, .nilFunc, .nilFunc, .nilFunc, .nilFunc, .nilFunc, .nilFunc, .nilFunc, .nilFunc, .nilFunc, .nilFunc, .nilFunc, .nilFunc, .nilFunc, .nilFunc, .nilFunc, .nilFunc, .nilFunc, .nilFunc, .nilFunc, .nilFunc, .nilFunc, .nilFunc, .nilFunc, .nilFunc, .nilFunc, .nilFunc, .nilFunc, .nilFunc, .nilFunc, .nilFunc, .nilFunc, .nilFunc, .nilFunc, .nilFunc, .nilFunc, .nilFunc, .nilFunc, .nilFunc, .nilFunc, .nilFunc, .nilFunc, .nilFunc, .nilFunc, .nilFunc, .nilFunc, .nilFunc, .nilFunc, .slice [] .nils]), some (.agg ([.unk, .unk, .nilFunc, .nilFunc, .nilFunc, .nilFunc, .nilFunc, .nilFunc, .nilFunc, .nilFunc, .nilFunc, .nilFunc, .nilFunc, .nilFunc, .nilFunc, .nilFunc, .nilFunc, .nilFunc, .nilFunc, .nilFunc, .nilFunc, .nilFunc, .nilFunc, .nilFunc, .nilFunc, .nilFunc, .nilFunc, .nilFunc, .nilFunc, .nilFunc, .nilFunc, .nilFunc, .nilFunc, .nilFunc, .nilFunc, .nilFunc, .nilFunc, .nilFunc, .nilFunc, .nilFunc, .nilFunc, .nilFunc, .nilFunc, .nilFunc, .nilFunc, .nilFunc, .nilFunc, .nilFunc, .nilFunc, .nilFunc, .nilFunc, .nilFunc, .nilFunc, .nilFunc, .nilFunc, .nilFunc, .nilFunc, .nilFunc, .nilFunc, .slice [] .nils])), none, none, none⟩
def ti116 : TI := ⟨some 3, some true, false, false, false, true, false, none, .no, [some (0, 3), some (1, 9), some (2, 3)], [some (0, 1), some (1, 1), some (2, 1)], some ([.int .i64 0, .str [], .int .i64 0]), some (.agg ([.int .i64 0, .str [], .int .i64 0])), none, none, none⟩
def ti119 : TI := ⟨some 7, some true, false, false, false, true, false, none, .no, [some (0, 9), some (1, 116), some (4, 3), some (5, 3), some (6, 35)], [some (0, 1), some (1, 3), some (4, 1), some (5, 1), some (6, 1)], some ([.str [], .int .i64 0, .str [], .int .i64 0, .int .i64 0, .int .i64 0, .int .i64 0]), some (.agg ([.str [], .int .i64 0, .str [], .int .i64 0, .int .i64 0, .int .i64 0, .int .i64 0])), none, none, none⟩
def ti147 : TI := ⟨some 3, some true, false, false, false, true, false, none, .no, [some (0, 3), some (1, 3), some (2, 3)], [some (0, 1), some (1, 1), some (2, 1)], some ([.int .i64 0, .int .i64 0, .int .i64 0]), some (.agg ([.int .i64 0, .int .i64 0, .int .i64 0])), none, none, none⟩
def ti150 : TI := ⟨some 1, some false, true, false, false, false, false, none, .no, [], [], some ([.nilp]), some (.nilp), none, none, none⟩
def ti152 : TI := ⟨some 1, some false, false, false, false, false, false, none, .no, [], [], some ([.nilFunc]), some (.nilFunc), none, none, none⟩
def ti154 : TI := ⟨some 5, some true, false, false, false, true, false, none, .no, [some (0, 9), some (1, 28), some (4, 150)], [some (0, 1), some (1, 3), some (4, 1)], some ([.str [], .int .i64 0, .str [], .slice [] .nils, .nilp]), some (.agg ([.str [], .int .i64 0, .str [], .slice [] .nils, .nilp])), none, none, none⟩
def ti158 : TI := ⟨some 1, some false, false, false, false, false, false, some .u64, .no, [], [], some ([.int .u64 0]), some (.int .u64 0), none, none, none⟩
def ti187 : TI := ⟨some 1, some false, true, false, false, false, false, none, .no, [], [], some ([.nilp]), some (.nilp), none, none, none⟩
def ti195 : TI := ⟨some 1, some false, false, false, false, false, false, none, .no, [], [], some ([.nilFunc]), some (.nilFunc), none, none, none⟩
def ti204 : TI := ⟨some 1, some false, false, false, false, false, true, none, .sl (some 1), [], [], some ([.slice [] .nils]), some (.slice [] .nils), some 1, some (5, 1, 1), none⟩
def ti218 : TI := ⟨some 1, some false, false, false, false, false, false, some .i64, .no, [], [], some ([.int .i64 0]), some (.int .i64 0), none, none, none⟩
def ti226 : TI := ⟨some 1, some false, false, false, false, false, false, some .u32, .no, [], [], some ([.int .u32 0]), some (.int .u32 0), none, none, none⟩
def ti228 : TI := ⟨some 1, some false, false, false, false, false, false, some .u64, .no, [], [], some ([.int .u64 0]), some (.int .u64 0), none, none, none⟩
def ti230 : TI := ⟨some 1, some false, false, false, false, false, false, some .u64, .no, [], [], some ([.int .u64 0]), some (.int .u64 0), none, none, none⟩
def tab : Tr := (.node (.node (.node (.node (.node (.node .nil 3 ti3 .nil) 4 ti4 .nil) 5 ti5 (.node (.node .nil 9 ti9 .nil) 22 ti22 .nil)) 23 ti23 (.node (.node (.node .nil 25 ti25 .nil) 26 ti26 .nil) 28 ti28 (.node .nil 29 ti29 .nil))) 31 ti31 (.node (.node (.node (.node .nil 34 ti34 .nil) 35 ti35 .nil) 47 ti47 (.node (.node .nil 49 ti49 .nil) 60 ti60 .nil)) 63 ti63 (.node (.node (.node .nil 64 ti64 .nil) 72 ti72 .nil) 83 ti83 (.node .nil 91 ti91 .nil)))) 93 ti93 (.node (.node (.node (.node (.node .nil 95 ti95 .nil) 99 ti99 .nil) 100 ti100 (.node (.node .nil 102 ti102 .nil) 103 ti103 .nil)) 105 ti105 (.node (.node (.node .nil 116 ti116 .nil) 119 ti119 .nil) 147 ti147 (.node .nil 150 ti150 .nil))) 152 ti152 (.node (.node (.node (.node .nil 154 ti154 .nil) 158 ti158 .nil) 187 ti187 (.node .nil 195 ti195 .nil)) 204 ti204 (.node (.node (.node .nil 218 ti218 .nil) 226 ti226 .nil) 228 ti228 (.node .nil 230 ti230 .nil)))))
theorem tab_ok : tab.keys.map (TI.of Tryz.prog) = tab.vals := by kernel_rfl
noncomputable def τ (t : Nat) : TI := tab.look (TI.of Tryz.prog) t
theorem τ_ok : τ = TI.of Tryz.prog := tab_eq tab_ok
theorem mixedO : Tryz.prog.follows .mixedOrders = true := by kernel_rfl
end Abs
end Go.Proofs.YtiiaccpcoclklaaGreat
namespace Go.Proofs.YtiiaccpcoclklaaGreat
namespace Abs
open Go

abbrev Str := List UInt8

inductive Ty where
  | mk (kind : Int) (name : Str) (kids : List Ty)
def Ty.kind : Ty → Int | .mk k _ _ => k
def Ty.name : Ty → Str | .mk _ n _ => n
def Ty.kids : Ty → List Ty | .mk _ _ ks => ks

inductive Tm where
  | mk (op : Int) (name : Str) (n : Int) (ty : Ty) (kids : List Tm)
def Tm.op : Tm → Int | .mk k _ _ _ _ => k
def Tm.name : Tm → Str | .mk _ n _ _ _ => n
def Tm.n : Tm → Int | .mk _ _ n _ _ => n
def Tm.ty : Tm → Ty | .mk _ _ _ t _ => t
def Tm.kids : Tm → List Tm | .mk _ _ _ _ ks => ks

mutual
def encTy : Ty → List AV
  | .mk k n ks => [.int .i64 k, .str n, .slice (encTys ks) .shared]
def encTys : List Ty → List (List AV)
  | [] => []
  | t :: ts => encTy t :: encTys ts
end
mutual
def encTm : Tm → List AV
  | .mk k n m t ks => [.int .i64 k, .str n, .int .i64 m] ++ encTy t ++ [.slice (encTms ks) .shared]
def encTms : List Tm → List (List AV)
  | [] => []
  | t :: ts => encTm t :: encTms ts
end

theorem encTys_map : ∀ ts, encTys ts = ts.map encTy
  | [] => rfl
  | t :: ts => by simp [encTys, encTys_map ts]
theorem encTms_map : ∀ ts, encTms ts = ts.map encTm
  | [] => rfl
  | t :: ts => by simp [encTms, encTms_map ts]
@[go_sem] theorem encTy_eq (t : Ty) : encTy t = [.int .i64 t.kind, .str t.name, .slice (t.kids.map encTy) .shared] := by
  cases t; simp [encTy, encTys_map, Ty.kind, Ty.name, Ty.kids]
@[go_sem] theorem encTm_eq (t : Tm) : encTm t = [.int .i64 t.op, .str t.name, .int .i64 t.n, .int .i64 t.ty.kind, .str t.ty.name, .slice (t.ty.kids.map encTy) .shared, .slice (t.kids.map encTm) .shared] := by
  cases t; simp [encTm, encTms_map, Tm.op, Tm.name, Tm.n, Tm.ty, Tm.kids, encTy_eq]

mutual
theorem ren_encTy (g : Nat → Nat) : ∀ t, renL g (encTy t) = encTy t
  | .mk k n ks => by simp only [encTy, renL, ren, renT, ren_encTys g ks]
theorem ren_encTys (g : Nat → Nat) : ∀ ts, renLL g (encTys ts) = encTys ts
  | [] => rfl
  | t :: ts => by simp only [encTys, renLL, ren_encTy g t, ren_encTys g ts]
end
mutual
theorem ren_encTm (g : Nat → Nat) : ∀ t, renL g (encTm t) = encTm t
  | .mk k n m (.mk a b c) ks => by
    simp only [encTm, encTy, List.cons_append, List.nil_append, renL, ren, renT, ren_encTms g ks, ren_encTys g c]
theorem ren_encTms (g : Nat → Nat) : ∀ ts, renLL g (encTms ts) = encTms ts
  | [] => rfl
  | t :: ts => by simp only [encTms, renLL, ren_encTm g t, ren_encTms g ts]
end
theorem ren_tys (g : Nat → Nat) (ts : List Ty) : renLL g (ts.map encTy) = ts.map encTy := by rw [← encTys_map]; exact ren_encTys g ts
theorem ren_tms (g : Nat → Nat) (ts : List Tm) : renLL g (ts.map encTm) = ts.map encTm := by rw [← encTms_map]; exact ren_encTms g ts

/-- A struct's value. -/
abbrev aTy (t : Ty) : AV := .agg [.int .i64 t.kind, .str t.name, .slice (t.kids.map encTy) .shared]
abbrev aTm (t : Tm) : AV := .agg [.int .i64 t.op, .str t.name, .int .i64 t.n, .int .i64 t.ty.kind, .str t.ty.name, .slice (t.ty.kids.map encTy) .shared, .slice (t.kids.map encTm) .shared]

theorem getD_map_enc {α : Type} (f : α → List AV) (l : List α) (i : Nat) (x : α) (h : l[i]? = some x) : (l.map f).getD i [] = f x := by simp [List.getD, h]

end Abs
end Go.Proofs.YtiiaccpcoclklaaGreat
namespace Go.Proofs.YtiiaccpcoclklaaGreat
namespace Abs
open Go

structure Carrier where
  name : Str
  elems : List Str
structure Decl where
  name : Str
  ty : Ty
structure Env where
  carriers : List Carrier
  names : List Decl

def encI (n : Int) : List AV := [.int .i64 n]
def encS (s : Str) : List AV := [.str s]
def encU8 (n : Int) : List AV := [.int .u8 n]
def toByte (n : Int) : UInt8 := UInt8.ofNat n.toNat
theorem bytesA_map : ∀ l : List Int, bytesA (l.map encU8) = some (l.map toByte)
  | [] => rfl
  | n :: l => by simp only [List.map_cons, bytesA, encU8]; rw [bytesA_map l]; rfl
theorem bytes_of {l : List Int} {B : List UInt8 → Prop} (h : B (l.map toByte)) : ∃ bs, bytesA (l.map encU8) = some bs ∧ B bs := ⟨_, bytesA_map l, h⟩
def encCarrier (x : Carrier) : List AV := [.str x.name, .slice (x.elems.map encS) .shared]
def encDecl (x : Decl) : List AV := [.str x.name, .int .i64 x.ty.kind, .str x.ty.name, .slice (x.ty.kids.map encTy) .shared]

theorem ren_map {α : Type} {f : α → List AV} (hf : ∀ g x, renL g (f x) = f x) (g : Nat → Nat) (l : List α) : renLL g (l.map f) = l.map f := by
  rw [renLL_map, List.map_map]
  exact List.map_congr_left fun x _ => hf g x
theorem renl_I (g : Nat → Nat) (l : List Int) : renLL g (l.map encI) = l.map encI := ren_map (fun _ _ => rfl) g l
theorem renl_U8 (g : Nat → Nat) (l : List Int) : renLL g (l.map encU8) = l.map encU8 := ren_map (fun _ _ => rfl) g l
theorem renl_S (g : Nat → Nat) (l : List Str) : renLL g (l.map encS) = l.map encS := ren_map (fun _ _ => rfl) g l
theorem renl_Ty (g : Nat → Nat) (l : List Ty) : renLL g (l.map encTy) = l.map encTy := ren_tys g l
theorem renl_Tm (g : Nat → Nat) (l : List Tm) : renLL g (l.map encTm) = l.map encTm := ren_tms g l
theorem renl_Carrier (g : Nat → Nat) (l : List Carrier) : renLL g (l.map encCarrier) = l.map encCarrier := ren_map (fun g x => by simp only [encCarrier, renL, ren, renT, renl_S]) g l
theorem renl_Decl (g : Nat → Nat) (l : List Decl) : renLL g (l.map encDecl) = l.map encDecl := ren_map (fun g x => by simp only [encDecl, renL, ren, renT, renl_Ty]) g l

theorem ok_I (n : Int) : okElem 1 (encI n) = true := rfl
theorem ok_U8 (n : Int) : okElem 1 (encU8 n) = true := rfl
theorem ok_S (n : Str) : okElem 1 (encS n) = true := rfl
theorem ok_Ty (n : Ty) : okElem 3 (encTy n) = true := by rw [encTy_eq]; rfl
theorem ok_Tm (n : Tm) : okElem 7 (encTm n) = true := by rw [encTm_eq]; rfl
theorem ok_Carrier (n : Carrier) : okElem 2 (encCarrier n) = true := rfl
theorem ok_Decl (n : Decl) : okElem 4 (encDecl n) = true := rfl

/-! ### Maps with string keys -/

def mfind {α : Type} (m : List (Str × α)) (k : Str) : Option α := (m.find? fun p => p.1 == k).map (·.2)
def mputL {α : Type} (m : List (Str × α)) (k : Str) (v : α) : List (Str × α) :=
  match m with
  | [] => [(k, v)]
  | p :: r => if p.1 == k then (k, v) :: r else p :: mputL r k v
def mput {α : Type} (m : List (Str × α)) (k : Str) (v : α) : Option (List (Str × α)) := if m.length < 140737488355328 then some (mputL m k v) else none
@[reducible] def mel {α β : Type} (o : Option α) (Y : β) (X : α → β) : β := match o with | some v => X v | none => Y

theorem find_map {α : Type} (f : α → AV) : ∀ (m : List (Str × α)) (k : Str), findA (m.map fun p => (p.1, f p.2)) k = (mfind m k).map f
  | [], k => rfl
  | p :: m, k => by
    have ih := find_map f m k
    unfold findA mfind at *
    simp only [List.map_cons, List.find?_cons]
    cases h : (p.1 == k)
    · exact ih
    · rfl
theorem put_map {α : Type} (f : α → AV) : ∀ (m : List (Str × α)) (k : Str) (v : α), putA (m.map fun p => (p.1, f p.2)) k (f v) = (mputL m k v).map fun p => (p.1, f p.2)
  | [], k, v => rfl
  | p :: m, k, v => by
    simp only [List.map_cons, putA, mputL]
    split
    · rfl
    · rw [put_map f m k v]; rfl

theorem find_of {α β : Type} {m : List (Str × α)} {k : Str} {f : α → AV} {A : AV → Prop} {B : Prop} {X : α → Option β} {Y : Option β} {r : β} (h : mel (mfind m k) Y X = some r)
    (h1 : ∀ x, mfind m k = some x → X x = some r → A (f x)) (h2 : mfind m k = none → Y = some r → B) : (∀ v, findA (m.map fun p => (p.1, f p.2)) k = some v → A v) ∧ (findA (m.map fun p => (p.1, f p.2)) k = none → B) := by
  rw [find_map]
  cases hm : mfind m k with
  | none => rw [hm] at h; exact ⟨fun v hv => (by cases hv), fun _ => h2 hm h⟩
  | some x => rw [hm] at h; exact ⟨fun v hv => (by cases hv; exact h1 x hm h), fun hv => (by cases hv)⟩

theorem put_of {α : Type} {m r : List (Str × α)} {k : Str} {f : α → AV} {v : α} {u : AV} {B : List (List UInt8 × AV) → Prop} (h : mput m k v = some r) (hu : u = f v) (hB : B (r.map fun p => (p.1, f p.2))) :
    ∃ es, (m.map fun p => (p.1, f p.2)).length < 140737488355328 ∧ es = putA (m.map fun p => (p.1, f p.2)) k u ∧ B es := by
  unfold mput at h
  split at h
  · rename_i hl; cases h
    exact ⟨_, by rw [List.length_map]; exact hl, by rw [hu, put_map], hB⟩
  · cases h

theorem renm {α : Type} {f : α → AV} (hf : ∀ g x, ren g (f x) = f x) (g : Nat → Nat) (m : List (Str × α)) : (m.map fun p => (p.1, f p.2)).map (fun p => (p.1, ren g p.2)) = m.map fun p => (p.1, f p.2) := by
  rw [List.map_map]
  exact List.map_congr_left fun p _ => by simp only [Function.comp, hf]

/-! ### Slices whose block nobody else looks at -/

theorem take_self {α : Type} (l : List α) : l = l.take l.length := by simp

theorem app_psl {α : Type} {l l' ys r : List α} {f : α → List AV} {b sz : Nat} {K : List (List AV) → Nat → Prop} (h : app b l' ys = some r) (hp : l' = l.take l'.length) (hf : ∀ x, okElem sz (f x) = true) (hK : K (r.map f) r.length) :
    (l'.length ≤ (l.map f).length ∧ (l'.length + (ys.map f).length) * b ≤ 140737488355328 ∧ l'.length + (ys.map f).length ≤ 140737488355328 ∧ ((l.map f).all (okElem sz) = true) ∧ ((ys.map f).all (okElem sz) = true)) ∧ ∃ r m, r = (l.map f).take l'.length ++ ys.map f ∧ m = r.length ∧ K r m := by
  obtain ⟨h1, h2, rfl⟩ := app_len h
  have hle : l'.length ≤ l.length := by
    have := congrArg List.length hp
    rw [List.length_take] at this; omega
  refine ⟨⟨by simpa using hle, by simpa using h1, by simpa using h2, all_ok hf _, all_ok hf _⟩, (l' ++ ys).map f, (l' ++ ys).length, ?_, by simp, hK⟩
  rw [← List.map_take, ← hp, List.map_append]

theorem cut_psl {α : Type} {l x : List α} {hi : Int} {k : IntKind} {B : Nat → Prop} (hx : scut l 0 hi = some x) (hB : B x.length) : ∃ m, boundA (some (.int k hi)) l.length l.length = some m ∧ B m := by
  unfold scut at hx
  split at hx
  · rename_i h0
    obtain ⟨_, h2, h3⟩ := h0
    cases hx
    refine ⟨_, ?_, hB⟩
    simp only [boundA]
    rw [if_pos ⟨by omega, h3⟩]
    simp; omega
  · cases hx
theorem cut_take {α : Type} {l l' x : List α} {hi : Int} (hx : scut l' 0 hi = some x) (hp : l' = l.take l'.length) : x = l.take x.length := by
  unfold scut at hx
  split at hx
  · rename_i h0
    cases hx
    have hle : l'.length ≤ l.length := by
      have := congrArg List.length hp
      rw [List.length_take] at this; omega
    simp only [Int.toNat_zero, List.drop_zero, Nat.sub_zero, List.length_take]
    rw [hp, List.take_take]
    simp only [List.length_take]
    congr 1; omega
  · cases hx

theorem arr_take {α : Type} {f : α → List AV} {e e0 : List α} {g : Nat → Nat} (hr : ∀ g (l : List α), renLL g (l.map f) = l.map f) (hp : e = e0.take e.length) : renLL g (e.map f) = (e0.map f).take e.length := by
  rw [hr, ← List.map_take, ← hp]
theorem VW.frzP' {α : Type} {f : α → List AV} {e e0 : List α} {h : List AObj} {L : List (Option Nat)} {l z : Nat} (hr : ∀ g (l : List α), renLL g (l.map f) = l.map f) (hp : e = e0.take e.length) (ho : obj? h l = .arr z (e0.map f)) (hn : L.contains (some l) = false) : VW h L (.slice (e.map f) .shared) (.psl l z e.length) := by
  have hle : e.length ≤ e0.length := by
    have := congrArg List.length hp
    rw [List.length_take] at this; omega
  exact .frzP ho (fun hm => by simp [hm] at hn) (by simpa using hle) (arr_take hr hp)
theorem OW.arr' {α : Type} {f : α → List AV} {e e0 : List α} {h : List AObj} {L : List (Option Nat)} {z : Nat} (hr : ∀ g (l : List α), renLL g (l.map f) = l.map f) (hp : e = e0.take e.length) : OW h L (.arr z (e.map f)) (.arr z (e0.map f)) := .arr (arr_take hr hp)

theorem cond_or {α : Type} {c : Bool} {X Y : Option α} {r : α} (h : cond c X Y = some r) : (c = true ∧ X = some r) ∨ (c = false ∧ Y = some r) := by
  cases c
  · exact .inr ⟨rfl, h⟩
  · exact .inl ⟨rfl, h⟩
theorem at_of {n q : Int} {len o sz : Nat} {B : Nat → Prop} (hc : (n == q) = true) (hq : 0 ≤ q ∧ q < (len : Int)) (hB : B (o + q.toNat * sz)) : ∃ m : Nat, (0 ≤ n ∧ n < (len : Int)) ∧ m = o + n.toNat * sz ∧ B m := by
  have e : n = q := by simpa using hc
  subst e
  exact ⟨_, hq, rfl, hB⟩

/-! ### Lists of nodes -/
def unc {α : Type} : List α → Option (α × List α)
  | [] => none
  | x :: r => some (x, r)
theorem cons_of {α : Type} {l : List α} {f : α → List AV} {x : α × List α} {cells : List AV} {B : List AV → Prop} (hx : unc l = some x) (hc : cells = f x.1 ++ [.flist (x.2.map f)]) (hB : B cells) : ∃ cs r cells, l.map f = cs :: r ∧ cells = cs ++ [AV.flist r] ∧ B cells := by
  cases l with
  | nil => cases hx
  | cons y r => cases hx; exact ⟨_, _, cells, rfl, hc, hB⟩
theorem nil_of {α : Type} {l : List α} {f : α → List AV} {B : Bool → Prop} (hB : B l.isEmpty) : ∃ b : Bool, b = (l.map f).isEmpty ∧ B b := ⟨l.isEmpty, by cases l <;> rfl, hB⟩
theorem VW.flS {h : List AObj} {L : List (Option Nat)} {es : List (List AV)} (hr : renLL (nmO L h.length) es = es) : VW h L (.flist es) (.flist es) := .same (by simp only [ren, hr])

theorem renL_app (g : Nat → Nat) (xs ys : List AV) : renL g (xs ++ ys) = renL g xs ++ renL g ys := by simp only [renL_map, List.map_append]
theorem VWs.appC {h : List AObj} {L : List (Option Nat)} {xs ys zs : List AV} (hx : ∀ g, renL g xs = xs) (hv : VWs h L ys zs) : VWs h L (xs ++ ys) (xs ++ zs) := by
  have key : ∀ ws : List AV, renL (nmO L h.length) ws = ws → VWs h L (ws ++ ys) (ws ++ zs) := by
    intro ws
    induction ws with
    | nil => intro _; exact hv
    | cons w ws ih => intro hw; simp only [renL, List.cons.injEq] at hw; exact .cons (.same hw.1) (ih hw.2)
  exact key xs (hx _)

end Abs
end Go.Proofs.YtiiaccpcoclklaaGreat
namespace Go.Proofs.YtiiaccpcoclklaaGreat
namespace Abs
open Go Go.Proofs
theorem okF_12 : okFn Tryz.prog 12 = true := by kernel_rfl
theorem okF_15 : okFn Tryz.prog 15 = true := by kernel_rfl
theorem okF_16 : okFn Tryz.prog 16 = true := by kernel_rfl
theorem okF_20 : okFn Tryz.prog 20 = true := by kernel_rfl
theorem okF_42 : okFn Tryz.prog 42 = true := by kernel_rfl
theorem okF_45 : okFn Tryz.prog 45 = true := by kernel_rfl
theorem okF_48 : okFn Tryz.prog 48 = true := by kernel_rfl
theorem okF_50 : okFn Tryz.prog 50 = true := by kernel_rfl
theorem okF_51 : okFn Tryz.prog 51 = true := by kernel_rfl
theorem okF_52 : okFn Tryz.prog 52 = true := by kernel_rfl
theorem okF_53 : okFn Tryz.prog 53 = true := by kernel_rfl
theorem okF_54 : okFn Tryz.prog 54 = true := by kernel_rfl
theorem okF_55 : okFn Tryz.prog 55 = true := by kernel_rfl
theorem okF_56 : okFn Tryz.prog 56 = true := by kernel_rfl
theorem okF_57 : okFn Tryz.prog 57 = true := by kernel_rfl
theorem okF_58 : okFn Tryz.prog 58 = true := by kernel_rfl
theorem okF_59 : okFn Tryz.prog 59 = true := by kernel_rfl
theorem okF_60 : okFn Tryz.prog 60 = true := by kernel_rfl
theorem okF_61 : okFn Tryz.prog 61 = true := by kernel_rfl
theorem okF_62 : okFn Tryz.prog 62 = true := by kernel_rfl
theorem okF_63 : okFn Tryz.prog 63 = true := by kernel_rfl
theorem okF_70 : okFn Tryz.prog 70 = true := by kernel_rfl
theorem okF_72 : okFn Tryz.prog 72 = true := by kernel_rfl
theorem okF_92 : okFn Tryz.prog 92 = true := by kernel_rfl
theorem okF_93 : okFn Tryz.prog 93 = true := by kernel_rfl
theorem okF_94 : okFn Tryz.prog 94 = true := by kernel_rfl
theorem okF_95 : okFn Tryz.prog 95 = true := by kernel_rfl
theorem okF_96 : okFn Tryz.prog 96 = true := by kernel_rfl
theorem okF_97 : okFn Tryz.prog 97 = true := by kernel_rfl
theorem okF_99 : okFn Tryz.prog 99 = true := by kernel_rfl
theorem okF_101 : okFn Tryz.prog 101 = true := by kernel_rfl
theorem okF_103 : okFn Tryz.prog 103 = true := by kernel_rfl
theorem okF_107 : okFn Tryz.prog 107 = true := by kernel_rfl
theorem okF_108 : okFn Tryz.prog 108 = true := by kernel_rfl
theorem okF_110 : okFn Tryz.prog 110 = true := by kernel_rfl
theorem okF_111 : okFn Tryz.prog 111 = true := by kernel_rfl
theorem okF_112 : okFn Tryz.prog 112 = true := by kernel_rfl
theorem okF_113 : okFn Tryz.prog 113 = true := by kernel_rfl
theorem okF_114 : okFn Tryz.prog 114 = true := by kernel_rfl
theorem okF_115 : okFn Tryz.prog 115 = true := by kernel_rfl
theorem okF_116 : okFn Tryz.prog 116 = true := by kernel_rfl
theorem okF_117 : okFn Tryz.prog 117 = true := by kernel_rfl
theorem okF_118 : okFn Tryz.prog 118 = true := by kernel_rfl
theorem okF_119 : okFn Tryz.prog 119 = true := by kernel_rfl
theorem okF_120 : okFn Tryz.prog 120 = true := by kernel_rfl
theorem okF_121 : okFn Tryz.prog 121 = true := by kernel_rfl
theorem okF_122 : okFn Tryz.prog 122 = true := by kernel_rfl
theorem okF_123 : okFn Tryz.prog 123 = true := by kernel_rfl
theorem okF_124 : okFn Tryz.prog 124 = true := by kernel_rfl
theorem okF_125 : okFn Tryz.prog 125 = true := by kernel_rfl
theorem okF_126 : okFn Tryz.prog 126 = true := by kernel_rfl
theorem okF_127 : okFn Tryz.prog 127 = true := by kernel_rfl
theorem okF_128 : okFn Tryz.prog 128 = true := by kernel_rfl
theorem okF_129 : okFn Tryz.prog 129 = true := by kernel_rfl
theorem okF_138 : okFn Tryz.prog 138 = true := by kernel_rfl
theorem okF_176 : okFn Tryz.prog 176 = true := by kernel_rfl
theorem okF_177 : okFn Tryz.prog 177 = true := by kernel_rfl
theorem okF_178 : okFn Tryz.prog 178 = true := by kernel_rfl
theorem okF_179 : okFn Tryz.prog 179 = true := by kernel_rfl
theorem okF_180 : okFn Tryz.prog 180 = true := by kernel_rfl
theorem okF_181 : okFn Tryz.prog 181 = true := by kernel_rfl
theorem okF_182 : okFn Tryz.prog 182 = true := by kernel_rfl
theorem okF_186 : okFn Tryz.prog 186 = true := by kernel_rfl
theorem okF_187 : okFn Tryz.prog 187 = true := by kernel_rfl
theorem okF_188 : okFn Tryz.prog 188 = true := by kernel_rfl
theorem okF_190 : okFn Tryz.prog 190 = true := by kernel_rfl
theorem okF_191 : okFn Tryz.prog 191 = true := by kernel_rfl
theorem okF_192 : okFn Tryz.prog 192 = true := by kernel_rfl
theorem okF_193 : okFn Tryz.prog 193 = true := by kernel_rfl
theorem okF_194 : okFn Tryz.prog 194 = true := by kernel_rfl
theorem okF_244 : okFn Tryz.prog 244 = true := by kernel_rfl
theorem okF_245 : okFn Tryz.prog 245 = true := by kernel_rfl
theorem okF_246 : okFn Tryz.prog 246 = true := by kernel_rfl
theorem okF_247 : okFn Tryz.prog 247 = true := by kernel_rfl
theorem okF_248 : okFn Tryz.prog 248 = true := by kernel_rfl
theorem okF_252 : okFn Tryz.prog 252 = true := by kernel_rfl
theorem okF_253 : okFn Tryz.prog 253 = true := by kernel_rfl
theorem okF_288 : okFn Tryz.prog 288 = true := by kernel_rfl
end Abs
end Go.Proofs.YtiiaccpcoclklaaGreat

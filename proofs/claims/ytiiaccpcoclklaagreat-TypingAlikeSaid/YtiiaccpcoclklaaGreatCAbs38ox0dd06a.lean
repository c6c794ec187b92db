/-
  Laws for walks that go along with a plain function: starts, ends, calls, loops, elements, appends. Conditions: none; lemmas over any program.
-/
import Derived.Test.YtiiaccpcoclklaaGreatCAbs35x3c9c9d
set_option linter.unusedSimpArgs false
set_option linter.unusedVariables false
namespace Go.Proofs.YtiiaccpcoclklaaGreat
namespace Abs
open Go
def OY (a b : List UInt8) : Option (List UInt8) := if a.length + b.length ≤ 9223372036854775807 then some (a ++ b) else none
theorem YN {a b x : List UInt8} {B : List UInt8 → Prop} (hx : OY a b = some x) (hk : B x) : ∃ r, a.length + b.length ≤ 9223372036854775807 ∧ r = a ++ b ∧ B r := by
 unfold OY at hx
 split at hx
 ·rename_i h0; cases hx; exact ⟨_, h0, rfl, hk⟩
 ·cases hx
section
variable {h : List AObj} {L : List (Option Nat)} {xs ys : List AV}
end
end Abs
end Go.Proofs.YtiiaccpcoclklaaGreat
namespace Go.Proofs.YtiiaccpcoclklaaGreat
namespace Abs
open Go
def toByte (n : Int) : UInt8 := UInt8.ofNat n.toNat
theorem YT : ∀ l : List Int, wG (l.map ER) = some (l.map toByte)
 | [] => rfl
 | n :: l => by simp only [List.map_cons, wG, ER]; rw [YT l]; rfl
theorem afb {l : List Int} {B : List UInt8 → Prop} (h : B (l.map toByte)) : ∃ bs, wG (l.map ER) = some bs ∧ B bs := ⟨_, YT l, h⟩
def upd {α : Type} (l : List α) (i : Int) (v : α) : List α := l.set i.toNat v
theorem aeG {α : Type} {l : List α} {n : Int} {x : α} (h : idx l n = some x) : 0 ≤ n ∧ n < (l.length : Int) ∧ l[n.toNat]? = some x := by
 unfold idx at h
 split at h
 ·rename_i h0
  have := (List.getElem?_eq_some_iff.1 h).1
  exact ⟨h0, by omega, h⟩
 ·cases h
theorem Uk {α : Type} {l l0 : List α} {n : Int} {x : α} {z : Nat} {B : Nat → Prop} (hx : idx l n = some x) (hl : l0.length = l.length) (hB : B (n.toNat * z)) : ∃ m : Nat, (0 ≤ n ∧ n < ((l0.length : Nat) : Int) ∧ z = z) ∧ m = n.toNat * z ∧ B m := by
 obtain ⟨h1, h2, _⟩ := aeG hx
 exact ⟨_, ⟨h1, by rw [hl]; exact h2, rfl⟩, rfl, hB⟩
theorem ldp {α : Type} {l : List α} {f : α → List AV} {n : Int} {x : α} {z : Nat} {cs : List AV} {B : List AV → Prop} (hx : idx l n = some x) (hf : f x = cs) (hz : 0 < z) (hB : B cs) : ∃ i cs', n.toNat * z = i * z ∧ 0 < z ∧ (l.map f)[i]? = some cs' ∧ B cs' := by
 obtain ⟨_, _, h3⟩ := aeG hx
 exact ⟨n.toNat, cs, rfl, hz, by rw [List.getElem?_map, h3, ← hf]; rfl, hB⟩
theorem stp {α : Type} {l : List α} {f : α → List AV} {n : Int} {x v : α} {z : Nat} {vs : List AV} {B : List (List AV) → Prop} (hx : idx l n = some x) (hv : vs = f v) (hz : 0 < z) (hB : B ((upd l n v).map f)) : ∃ i r, n.toNat * z = i * z ∧ 0 < z ∧ i < (l.map f).length ∧ r = (l.map f).set i vs ∧ B r := by
 obtain ⟨_, h2, _⟩ := aeG hx
 exact ⟨n.toNat, _, rfl, hz, by rw [List.length_map]; omega, by rw [hv, upd, List.map_set], hB⟩
theorem am0 {g : Nat → Nat} {l z n n' : Nat} {y : AV} (h : n = n') (h2 : ren g (.psl l z n') = y) : ren g (.psl l z n) = y := h ▸ h2
end Abs
end Go.Proofs.YtiiaccpcoclklaaGreat
namespace Go.Proofs.YtiiaccpcoclklaaGreat
namespace Abs
open Go
def J2 (a c : Int) : Option Int := if c = 0 then none else some (a.tmod c)
theorem aj9 {a c x : Int} {k : IntKind} {K : AV → Prop} (h : J2 a c = some x) (hk : K (.int k x)) : gW (if c = 0 then none else some (AV.int k (a.tmod c))) K := by
 unfold J2 at h
 split at h
 ·cases h
 ·rename_i hc
  rw [if_neg hc]
  cases h
  exact hk
end Abs
end Go.Proofs.YtiiaccpcoclklaaGreat
namespace Go.Proofs.YtiiaccpcoclklaaGreat
namespace Abs
open Go
theorem ang {P : Program} {o : Oper} {s : ASt} {t k e sz by_ : Nat} (ho : o.op = .buildSlice t 0 #[]) (he : lC P t = some (e, sz, by_)) (hk : eF (obj? s.heap k) = true) : AB P o s (s.wr (.obj k (.arr sz []) :: aY o.dst (.psl k sz 0))) :=
 sS fun C κ a w hs => by
  obtain ⟨hut, i, zv', hi, hsz, hby, hzz, hzs⟩ := qp he
  obtain ⟨κ', hsim⟩ := ag6 hs hk (es := []) (c := #[]) (e := e) (cap := 0) (sz := sz) (fun i hi => by simp at hi) (by simp) (by simp) (by simp) (fun i j hi => by simp at hi) o.dst
  refine ⟨_, κ', _, ?_, hsim⟩
  have hsize : (sizeOf e).run P w = .ok sz w := by simp [sizeOf, typeInfo, hi, hsz]
  simp only [execOp, ho, Instr.buildSlice, Sem.run_bind, run_underlying hut, Result.andThen_ok, hsize]
  rw [Sem.run_ite, if_neg (by omega)]
  simp only [Sem.run_pure, Result.andThen_ok, Sem.run_bind]
  rw [if_pos (by omega)]
  simp [newRow, Instr.fill, show Array.range 0 = #[] from rfl]
def ajA (τ : Nat → TI) (k : Nat) (d : Option Tmp) (ρ : Operand → AV) (σ : Nat → AObj) (K : List Nat → List Wr → Prop) : Op → Prop
 | .buildSlice t len parts => match len, parts.toList with
  | 0, [] => gW (τ t).elem fun e => iE (eF (σ k)) (K [k] (.obj k (.arr e.2.1 []) :: aY d (.psl k e.2.1 0))) False
  | _, _ => Rh τ k d ρ σ K (.buildSlice t len parts)
 | op => Rh τ k d ρ σ K op
theorem aj8 {τ : Nat → TI} {k : Nat} {d : Option Tmp} {ρ : Operand → AV} {σ : Nat → AObj} {K : List Nat → List Wr → Prop} {op : Op} (h : ajA τ k d ρ σ K op) : Rh τ k d ρ σ K op ∨ ∃ t e, op = .buildSlice t 0 #[] ∧ (τ t).elem = some e ∧ eF (σ k) = true ∧ K [k] (.obj k (.arr e.2.1 []) :: aY d (.psl k e.2.1 0)) := by
 unfold ajA at h
 split at h
 ·rename_i t len parts
  split at h
  ·rename_i hp
   obtain ⟨e, h1, h2⟩ := dV h
   rcases dH h2 with ⟨h3, h4⟩ | ⟨_, h4⟩
   ·refine .inr ⟨t, e, ?_, h1, h3, h4⟩
    have : parts = #[] := by
     have := congrArg List.toArray hp
     simpa using this
    rw [this]
   ·exact h4.elim
  ·exact .inl h
 ·exact .inl h
def FT (P : Program) (τ : Nat → TI) (ops : List Oper) : List Oper → Nat → List Eff → List AV → List AObj → (List Eff → List AV → List AObj → Prop) → Prop
 | [], _, es, t, h, K => K es.reverse t h
 | o :: l, k, es, t, h, K => grd ops t
   (fun t => match oF o.op with
    | some (f, args) => abX (fun fid caps => abR t args.toList fun vs => fL (vs ++ caps) fun vs => ACallU P fid vs o.dst t h k fun k' ro ws => xA ws t h fun t' h' => FT P τ ops l k' (⟨fq ops.toArray o, ro, ws⟩ :: es) t' h' K) (fV t f)
    | none => ajA τ k o.dst (fV t) (obj? h) (fun rd ws => xA ws t h fun t' h' => Pt (kX o.op) (FT P τ ops l k (⟨fq ops.toArray o, rd, ws⟩ :: es) t' h' K) (FT P τ ops l (k + 1) (⟨fq ops.toArray o, rd, ws⟩ :: es) t' h' K)) o.op)
   (fun t => xA (aY o.dst (.bq [])) t h fun t' h' => FT P τ ops l k (⟨fq ops.toArray o, [], aY o.dst (.bq [])⟩ :: es) t' h' K) o.guard
theorem ajb {P : Program} {ops : List Oper} : ∀ (l : List Oper) (k : Nat) (es : List Eff) (t : List AV) (h : List AObj) (K : List Eff → List AV → List AObj → Prop), FT P (TI.of P) ops l k es t h K → ∃ es' s', ATr P ops.toArray l es' ⟨t, h⟩ s' ∧ K (es.reverse ++ es') s'.tmps s'.heap := by
 intro l
 induction l with
 | nil => intro k es t h K hr; exact ⟨[], ⟨t, h⟩, .nil _, by simpa [FT] using hr⟩
 | cons o l ih =>
  intro k es t h K hr
  have fin : ∀ (e : Eff) (k' : Nat), H8 P ops.toArray o ⟨t, h⟩ e → (xA e.ws t h fun t' h' => FT P (TI.of P) ops l k' (e :: es) t' h' K) → ∃ es' s', ATr P ops.toArray (o :: l) es' ⟨t, h⟩ s' ∧ K (es.reverse ++ es') s'.tmps s'.heap := fun e k' he hw => by
   rw [aeY] at hw
   obtain ⟨es', s', g1, g2⟩ := ih k' (e :: es) _ _ K hw
   exact ⟨e :: es', s', .cons he g1, by simpa using g2⟩
  simp only [FT] at hr
  rcases O7 hr with ⟨hc, h1⟩ | ⟨hc, h2⟩
  ·cases hcall : oF o.op with
   | none =>
    rw [hcall] at h1
    obtain ⟨rd, ws, g1, g2⟩ : ∃ rd ws, H8 P ops.toArray o ⟨t, h⟩ ⟨fq ops.toArray o, rd, ws⟩ ∧ xA ws t h fun t' h' => Pt (kX o.op) (FT P (TI.of P) ops l k (⟨fq ops.toArray o, rd, ws⟩ :: es) t' h' K) (FT P (TI.of P) ops l (k + 1) (⟨fq ops.toArray o, rd, ws⟩ :: es) t' h' K) := by
     rcases aj8 h1 with h1 | ⟨tt, e, ho, he, hk, h1⟩
     ·obtain ⟨rd, ws, g1, g2⟩ := acU h1
      exact ⟨rd, ws, II (s := ⟨t, h⟩) hc g1, g2⟩
     ·refine ⟨_, _, fun s' hs' => .inl ⟨by rw [BR hs'.rs]; exact hc, ?_⟩, h1⟩
      refine ang ho (e := e.1) (by_ := e.2.2) he ?_
      rw [hs'.ro k (by simp)]
      exact hk
    have g2 : ∃ k', xA ws t h fun t' h' => FT P (TI.of P) ops l k' (⟨fq ops.toArray o, rd, ws⟩ :: es) t' h' K := by
     cases hn : kX o.op with
     | zero => simp only [hn, Pt] at g2; exact ⟨_, g2⟩
     | succ m => simp only [hn, Pt] at g2; exact ⟨_, g2⟩
    obtain ⟨k', g2⟩ := g2
    exact fin ⟨fq ops.toArray o, rd, ws⟩ k' g1 g2
   | some p =>
    obtain ⟨f, args⟩ := p
    rw [hcall] at h1
    simp only at h1
    unfold abX at h1
    split at h1
    ·rename_i fid caps g1
     simp only [abl, Am] at h1
     replace h1 := h1.out
     simp only [GX] at h1
     obtain ⟨hok, ρ, ks, aargs, H, res, H', g2, g3, g4, g5, g6⟩ := h1
     obtain ⟨tt, ho⟩ := Bz hcall
     exact fin _ _ (Ht (s := ⟨t, h⟩) hc ho g1 hok g2 g3 g4 g5) g6
    ·exact h1.elim
  ·exact fin _ k (Iw (s := ⟨t, h⟩) hc) h2
theorem AW.apk {P : Program} {τ : Nat → TI} {m id : Nat} {l : Array Oper} {dr : Bool} {Q : QT} {t : List AV} {h : List AObj} (hτ : τ = TI.of P) (hm : P.follows .mixedOrders = true) (r : Nat)
  (hr : rep r h fun h' => VP h 0 fun k => FT P τ l.toList l.toList k [] t h' fun es t h => iE dr (yQ l.toList es = true ∧ Q .normal t h) (Q .normal t h)) : AW P m (.region id l dr) Q t h := by
 subst hτ
 unfold rep at hr
 simp only [Am, ab1] at hr
 obtain ⟨es, s', h1, h2⟩ := ajb _ _ _ _ _ _ hr
 simp only [List.reverse_nil, List.nil_append] at h2
 have hl : l = l.toList.toArray := by simp
 rw [hl]
 rcases dH h2 with ⟨rfl, g1, g2⟩ | ⟨rfl, g⟩
 ·exact AW.of (fE.drawn (s := ⟨t, h⟩) r hm h1 g1 g2)
 ·exact AW.of (fE.region (s := ⟨t, h⟩) r h1.steps g)
end Abs
end Go.Proofs.YtiiaccpcoclklaaGreat

/-
  Plain functions with fuel: what they come to ('Ev'); loops over a list. Conditions: none; lemmas without a program.
-/
import Derived.Test.YtkopaeklihhdlaaGreatCDmx12f51d
set_option linter.unusedSimpArgs false
set_option linter.unusedVariables false
namespace Go.Proofs.YtkopaeklihhdlaaGreat
namespace Abs
open Go
def Ev {α : Type} (f : Nat → Option α) (v : α) : Prop := ∃ N, ∀ n, N ≤ n → f n = some v
theorem Ev.ret {α : Type} (v : α) : Ev (fun _ => some v) v := ⟨0, fun _ _ => rfl⟩
theorem Ev.of {α : Type} {f : Nat → Option α} {v : α} (h : ∀ n, f n = some v) : Ev f v := ⟨0, fun n _ => h n⟩
theorem Ev.bind {α β : Type} {f : Nat → Option α} {g : α → Nat → Option β} {a : α} {b : β} (h1 : Ev f a) (h2 : Ev (g a) b) : Ev (fun n => (f n).bind fun x => g x n) b := by
 obtain ⟨N, hN⟩ := h1
 obtain ⟨M, hM⟩ := h2
 refine ⟨max N M, fun n hn => ?_⟩
 show (f n).bind (fun x => g x n) = some b
 rw [hN n (by omega)]
 exact hM n (by omega)
theorem Ev.succ {α : Type} {f : Nat → Option α} {v : α} (h : Ev (fun n => f (n + 1)) v) : Ev f v := by
 obtain ⟨N, hN⟩ := h
 refine ⟨N + 1, fun n hn => ?_⟩
 cases n with
 | zero => omega
 | succ n => exact hN n (by omega)
theorem Ev.pos {α : Type} {b : Bool} {f g : Nat → Option α} {v : α} (hb : b = true) (h1 : Ev f v) : Ev (fun n => cond b (f n) (g n)) v := by subst hb; exact h1
theorem Ev.neg {α : Type} {b : Bool} {f g : Nat → Option α} {v : α} (hb : b = false) (h1 : Ev g v) : Ev (fun n => cond b (f n) (g n)) v := by subst hb; exact h1
theorem gY {α : Type} (pre : List α) (x : α) (suf : List α) : idx (pre ++ x :: suf) (pre.length : Int) = some x := by
 unfold idx
 rw [if_pos (by omega)]
 simp
theorem wrap64 {n : Int} (h1 : -9223372036854775808 ≤ n) (h2 : n ≤ 9223372036854775807) : IntKind.wrap .i64 n = n := (bU h1 h2).symm
def yA (c : Int) : Bool := (decide (97 ≤ c) && decide (c ≤ 122)) || (decide (65 ≤ c) && decide (c ≤ 90))
def Dz (c : Int) : Bool := decide (48 ≤ c) && decide (c ≤ 57)
def qm (c : Int) : Bool := yA c || (Dz c || c == 95)
def kws : List Str := [[116, 114, 117, 101], [102, 97, 108, 115, 101], [110, 111, 116], [111, 114], [102, 111, 114, 97, 108, 108], [101, 120, 105, 115, 116, 115], [105, 110], [110, 111, 116, 105, 110], [115, 117, 98], [109, 111, 100], [102, 117, 110], [99, 97, 114, 100], [109, 105, 110], [109, 97, 120], [100, 111, 109], [114, 97, 110], [80, 79, 87], [105, 110, 116], [98, 111, 111, 108], [115, 101, 116], [112, 97, 105, 114]]
def Qq (s : Str) : Bool := kws.any fun x => x == s
def ident (s : Str) : Bool := match s with
 | [] => false
 | c :: cs => decide (cs.length < 16) && (yA (c.toNat : Int) && (!(Qq (c :: cs)) && cs.all fun c => qm (c.toNat : Int)))
def FU (s : Str) : Str := if s.getLast? = some 39 then s.dropLast else s
def named (s : Str) : Bool := ident (FU s)
theorem Ty.ind {P : Ty → Prop} (h : ∀ k n ks, (∀ t ∈ ks, P t) → P (.mk k n ks)) (t : Ty) : P t := by
 match t with
 | .mk k n ks => exact h k n ks fun u _ => Ty.ind h u
termination_by SizeOf.sizeOf t
decreasing_by
 rename_i hu
 have := List.sizeOf_lt_of_mem hu
 simp only [Ty.mk.sizeOf_spec]
 omega
theorem Val.ind {P : Val → Prop} (h : ∀ k n s ks, (∀ t ∈ ks, P t) → P (.mk k n s ks)) (t : Val) : P t := by
 match t with
 | .mk k n s ks => exact h k n s ks fun u _ => Val.ind h u
termination_by SizeOf.sizeOf t
decreasing_by
 rename_i hu
 have := List.sizeOf_lt_of_mem hu
 simp only [Val.mk.sizeOf_spec]
 omega
mutual
def eY : Val → Prop
 | .mk _ _ _ ks => ks.length ≤ 9223372036854775807 ∧ FZ ks
def FZ : List Val → Prop
 | [] => True
 | v :: vs => eY v ∧ FZ vs
end
theorem Ng : ∀ {vs : List Val}, FZ vs → ∀ v ∈ vs, eY v
 | [], _, _, h => by cases h
 | v :: vs, h, u, hu => by
  simp only [FZ] at h
  rcases List.mem_cons.1 hu with rfl | hu
  ·exact h.1
  ·exact Ng h.2 u hu
theorem eY.kids {v : Val} (h : eY v) : v.kids.length ≤ 9223372036854775807 ∧ ∀ u ∈ v.kids, eY u := by
 cases v
 simp only [eY] at h
 exact ⟨h.1, Ng h.2⟩
def iA (a b : Int) : Int := cond (decide (a < b)) (-1) (cond (decide (b < a)) 1 0)
mutual
def bR : Val → Val → Int
 | .mk k n s ks, .mk k' n' s' ks' => cond (iA k k' != 0) (iA k k') (cond (iA n n' != 0) (iA n n') (cond (Lib.compareBytes s s' != 0) (Lib.compareBytes s s') (dD ks ks')))
def dD : List Val → List Val → Int
 | [], [] => 0
 | [], _ :: _ => -1
 | _ :: _, [] => 1
 | a :: asx, b :: bs => cond (bR a b != 0) (bR a b) (dD asx bs)
end
def Et : List Val → List Val → LR Unit Int
 | [], _ => .nx ()
 | _ :: _, [] => .rt 1
 | a :: asx, b :: bs => cond (bR a b != 0) (.rt (bR a b)) (Et asx bs)
theorem PW : ∀ (asx bs : List Val) (x y : Nat), x + bs.length = y + asx.length → (match Et asx bs with | .nx _ => cond (decide ((x : Int) < (y : Int))) (-1) 0 | .rt r => r) = dD asx bs
 | [], [], x, y, h => by
  simp only [Et, dD]
  rw [decide_eq_false (by simp at h; omega)]
  rfl
 | [], b :: bs, x, y, h => by
  simp only [Et, dD]
  rw [decide_eq_true (by simp at h; omega)]
  rfl
 | a :: asx, [], x, y, h => rfl
 | a :: asx, b :: bs, x, y, h => by
  simp only [Et, dD]
  cases hc : (bR a b != 0) with
  | true => rfl
  | false => exact PW asx bs x y (by simp at h; omega)
theorem Lg (n : Nat) (a b : Int) : cmp_Compare_int n a b = some (iA a b) := by
 unfold cmp_Compare_int iA
 simp only [bne_self_eq_false, cond_false]
 cases decide (a < b) <;> cases decide (b < a) <;> rfl
theorem Z8 (a b c : Int) : Ev (fun n => xQ n [a, b, c]) (cond (a != 0) a (cond (b != 0) b (cond (c != 0) c 0))) := by
 refine ⟨4, fun n hn => ?_⟩
 obtain ⟨m, rfl⟩ : ∃ m, n = m + 4 := ⟨n - 4, by omega⟩
 show (mY (m + 4) [a, b, c] (m + 4) 0).bind _ = _
 have i0 : idx [a, b, c] 0 = some a := rfl
 have i1 : idx [a, b, c] (0 + 1) = some b := rfl
 have i2 : idx [a, b, c] (0 + 1 + 1) = some c := rfl
 simp only [mY, i0, i1, i2, Option.bind_some, show decide ((0 : Int) < (([a, b, c] : List Int).length : Int)) = true from rfl, show decide ((0 + 1 : Int) < (([a, b, c] : List Int).length : Int)) = true from rfl, show decide ((0 + 1 + 1 : Int) < (([a, b, c] : List Int).length : Int)) = true from rfl, show decide ((0 + 1 + 1 + 1 : Int) < (([a, b, c] : List Int).length : Int)) = false from rfl, cond_true, cond_false]
 cases a != 0 <;> cases b != 0 <;> cases c != 0 <;> rfl
theorem PO : ∀ (asx : List Val), (∀ a ∈ asx, ∀ b, Ev (fun n => dG n a b) (bR a b)) → ∀ (bs pa pb : List Val), pa.length = pb.length → ∃ N, ∀ n, N ≤ n → ∀ k, asx.length + 1 ≤ k → cO n (fun p0 p1 => dI n p0 p1) (fun p0 p1 => dG n p0 p1) (pa ++ asx) (pb ++ bs) k (pa.length : Int) = some (Et asx bs)
 | [], _, bs, pa, pb, hp => by
  refine ⟨0, fun n _ k hk => ?_⟩
  obtain ⟨j, rfl⟩ : ∃ j, k = j + 1 := ⟨k - 1, by simp at hk; omega⟩
  unfold cO
  rw [decide_eq_false (by simp)]
  rfl
 | a :: asx, H, [], pa, pb, hp => by
  refine ⟨0, fun n _ k hk => ?_⟩
  obtain ⟨j, rfl⟩ : ∃ j, k = j + 1 := ⟨k - 1, by simp at hk; omega⟩
  unfold cO
  rw [decide_eq_true (by simp; omega), gY]
  simp only [cond_true, Option.bind_some]
  rw [decide_eq_true (by simp; omega)]
  rfl
 | a :: asx, H, b :: bs, pa, pb, hp => by
  obtain ⟨N1, h1⟩ := H a (by simp) b
  obtain ⟨N2, h2⟩ := PO asx (fun x hx => H x (by simp [hx])) bs (pa ++ [a]) (pb ++ [b]) (by simp [hp])
  refine ⟨N1 + N2, fun n hn k hk => ?_⟩
  obtain ⟨j, rfl⟩ : ∃ j, k = j + 1 := ⟨k - 1, by simp at hk; omega⟩
  have h1 : dG n a b = _ := h1 n (by omega)
  have h2 := h2 n (by omega) j (by simp at hk; omega)
  unfold cO
  rw [decide_eq_true (by simp; omega), gY]
  simp only [cond_true, Option.bind_some]
  rw [decide_eq_false (by simp; omega), show (pa.length : Int) = (pb.length : Int) by rw [hp], gY]
  simp only [cond_false, Option.bind_some]
  rw [h1]
  simp only [Option.bind_some, Et]
  cases hc : (bR a b != 0) with
  | true => rfl
  | false =>
   simp only [cond_false]
   rw [show (pb.length : Int) + 1 = ((pa ++ [a]).length : Int) by simp [hp]]
   simpa using h2
theorem KY (asx bs : List Val) (H : ∀ a ∈ asx, ∀ b, Ev (fun n => dG n a b) (bR a b)) : Ev (fun n => dI n asx bs) (dD asx bs) := by
 obtain ⟨N, h⟩ := PO asx H bs [] [] rfl
 refine Ev.succ ?_
 refine ⟨N + asx.length + 1, fun n hn => ?_⟩
 have := h n (by omega) n (by omega)
 simp only [List.nil_append, List.length_nil] at this
 show fC n _ _ asx bs = _
 unfold fC
 rw [show ((0 : Nat) : Int) = 0 from rfl] at this
 rw [this]
 have he := PW asx bs asx.length bs.length (by omega)
 rw [← he]
 cases Et asx bs with
 | rt r => rfl
 | nx u =>
  simp only [Option.bind_some, LR.el]
  cases decide ((asx.length : Int) < (bs.length : Int)) <;> rfl
theorem pF (a b : Val) : Ev (fun n => dG n a b) (bR a b) := by
 revert b
 induction a using Val.ind with
 | h k n s ks ih =>
  intro b
  obtain ⟨k', n', s', ks'⟩ := b
  have hk := KY ks ks' ih
  refine Ev.succ ?_
  show Ev (fun m => lX m _ _ (.mk k n s ks) (.mk k' n' s' ks')) _
  unfold lX
  simp only [Lg, strings_Compare, Option.bind_some, Val.kind, Val.n, Val.name, Val.kids]
  refine Ev.bind (Z8 _ _ _) ?_
  simp only [bR]
  cases h1 : (iA k k' != 0) with
  | true => simp only [cond_true, h1]; exact Ev.ret _
  | false =>
   cases h2 : (iA n n' != 0) with
   | true => simp only [cond_true, cond_false, h2]; exact Ev.ret _
   | false =>
    cases h3 : (Lib.compareBytes s s' != 0) with
    | true => simp only [cond_true, cond_false, h3]; exact Ev.ret _
    | false =>
     simp only [cond_false, bne_self_eq_false]
     exact Ev.bind hk (Ev.ret _)
end Abs
end Go.Proofs.YtkopaeklihhdlaaGreat

/-
  The walk of a body by weak head reduction: states are kept plain, and the walk stops where a question is. Conditions: none; lemmas over any program.
-/
import Derived.Test.YtkopaeklihhdlaaGreatCAbs23ox0f1482
set_option linter.unusedSimpArgs false
set_option linter.unusedVariables false
namespace Go.Proofs.YtkopaeklihhdlaaGreat
namespace Abs
open Go
def fL {α : Type} : List α → (List α → Prop) → Prop
 | [], K => K []
 | x :: xs, K => fL xs fun ys => K (x :: ys)
def Jg {α : Type} : List α → Nat → (Nat → Prop) → Prop
 | [], k, K => K k
 | _ :: xs, k, K => Jg xs (k + 1) K
def Db {α : Type} : List α → Nat → α → (List α → Prop) → Prop
 | [], _, _, K => K []
 | _ :: xs, 0, v, K => K (v :: xs)
 | x :: xs, n + 1, v, K => Db xs n v fun ys => K (x :: ys)
def KA : AV → (AV → Prop) → Prop
 | .agg cs, K => fL cs fun cs => K (.agg cs)
 | .eptr cs, K => fL cs fun cs => K (.eptr cs)
 | .tup cs, K => fL cs fun cs => K (.tup cs)
 | .func f cs, K => fL cs fun cs => K (.func f cs)
 | .int k n, K => K (.int k n)
 | .bool b, K => K (.bool b)
 | .str b, K => K (.str b)
 | .ptr l o, K => K (.ptr l o)
 | .nilp, K => K .nilp
 | .slice es t, K => K (.slice es t)
 | .mapr l, K => K (.mapr l)
 | .nilFunc, K => K .nilFunc
 | .psl l z n, K => K (.psl l z n)
 | .flist ns, K => K (.flist ns)
 | .unk, K => K .unk
def ac7 : AObj → (AObj → Prop) → Prop
 | .box cs, K => fL cs fun cs => K (.box cs)
 | .tip n, K => K (.tip n)
 | .mp es, K => K (.mp es)
 | .dead, K => K .dead
 | .arr z es, K => K (.arr z es)
 | .res, K => K .res
def qZ : List Wr → List AV → List AObj → (List AV → List AObj → Prop) → Prop
 | [], t, h, K => K t h
 | .slot n v :: ws, t, h, K => KA v fun v => Db t n v fun t => qZ ws t h K
 | .obj n v :: ws, t, h, K => ac7 v fun v => Db h n v fun h => qZ ws t h K
def KO (t : List AV) : List Operand → (List AV → Prop) → Prop
 | [], K => K []
 | x :: xs, K => KA (cK t x) fun v => KO t xs fun vs => K (v :: vs)
def CU : Nat → Prop → Prop → Prop
 | 0, A, _ => A
 | _ + 1, _, B => B
theorem rG {α : Type} : ∀ (l : List α) (K : List α → Prop), fL l K = K l := by
 intro l; induction l with
 | nil => intro K; rfl
 | cons x l ih => intro K; simp only [fL]; exact ih _
theorem JG {α : Type} : ∀ (l : List α) (k : Nat) (K : Nat → Prop), Jg l k K = K (k + l.length) := by
 intro l; induction l with
 | nil => intro k K; rfl
 | cons x l ih => intro k K; simp only [Jg]; rw [ih]; congr 1; simp; omega
theorem zh {α : Type} : ∀ (l : List α) (n : Nat) (v : α) (K : List α → Prop), Db l n v K = K (l.set n v) := by
 intro l; induction l with
 | nil => intro n v K; rfl
 | cons x l ih => intro n v K; cases n with
  | zero => rfl
  | succ n => simp only [Db, List.set_cons_succ]; exact ih _ _ _
theorem zL (v : AV) (K : AV → Prop) : KA v K = K v := by cases v <;> simp only [KA, rG]
theorem ae9 (v : AObj) (K : AObj → Prop) : ac7 v K = K v := by cases v <;> simp only [ac7, rG]
theorem Oe : ∀ (ws : List Wr) (t : List AV) (h : List AObj) (K : List AV → List AObj → Prop), qZ ws t h K = K (ASt.wr ⟨t, h⟩ ws).tmps (ASt.wr ⟨t, h⟩ ws).heap := by
 intro ws; induction ws with
 | nil => intro t h K; rfl
 | cons w ws ih => intro t h K; cases w with
  | slot n v => simp only [qZ, zL, zh]; rw [ih]; rfl
  | obj n v => simp only [qZ, ae9, zh]; rw [ih]; rfl
theorem JF (t : List AV) : ∀ (l : List Operand) (K : List AV → Prop), KO t l K = K (l.map (cK t)) := by
 intro l; induction l with
 | nil => intro K; rfl
 | cons x l ih => intro K; simp only [KO, zL, ih, List.map_cons]
def agn (w : Bool) (d : Nat) (t : List AV) (A B : List AV → Prop) : AV → Prop
 | .bool b => eY b (Db t d (.bool true) fun t => eY w (A t) (B t)) (Db t d (.bool false) fun t => eY w (B t) (A t))
 | .tup [] => B t
 | _ => False
def grd (ops : List Oper) (t : List AV) (A B : List AV → Prop) : Option (Nat × Bool) → Prop
 | none => A t
 | some (j, w) => eG ((ops[j]?).bind (·.dst)) fun d => agn w d t A B (t.getD d .unk)
theorem set_self {t : List AV} {d : Nat} {v : AV} (h : t.getD d .unk = v) : t.set d v = t := by
 apply List.ext_getElem?
 intro i
 rw [List.getElem?_set]
 split
 ·rename_i he; subst he
  split
  ·rename_i hl; rw [List.getD, List.getElem?_eq_getElem hl] at h; rw [List.getElem?_eq_getElem hl, ← h]; rfl
  ·rename_i hl; rw [List.getElem?_eq_none (Nat.le_of_not_lt hl)]
 ·rfl
theorem CF {ops : List Oper} {t : List AV} {A B : List AV → Prop} {o : Oper} (h : grd ops t A B o.guard) : (gu ops.toArray t o = some true ∧ A t) ∨ (gu ops.toArray t o = some false ∧ B t) := by
 unfold gu
 cases hg : o.guard with
 | none => rw [hg] at h; exact .inl ⟨rfl, h⟩
 | some p =>
  obtain ⟨j, w⟩ := p
  rw [hg] at h
  obtain ⟨d, h1, h2⟩ := bK h
  simp only [List.getElem?_toArray, h1]
  unfold agn at h2
  split at h2
  ·rename_i b hb
   simp only [hb]
   rcases bC h2 with ⟨rfl, g⟩ | ⟨rfl, g⟩
   ·rw [zh, set_self hb] at g
    rcases bC g with ⟨rfl, g⟩ | ⟨rfl, g⟩
    ·exact .inl ⟨rfl, g⟩
    ·exact .inr ⟨rfl, g⟩
   ·rw [zh, set_self hb] at g
    rcases bC g with ⟨rfl, g⟩ | ⟨rfl, g⟩
    ·exact .inr ⟨rfl, g⟩
    ·exact .inl ⟨rfl, g⟩
  ·rename_i hb
   rw [hb]
   exact .inr ⟨rfl, h2⟩
  ·exact h2.elim
def zJ (P : Program) (f : Nat) (args : List AV) (dst : Option Tmp) (t : List AV) (h : List AObj) (k : Nat) (K : Nat → List Nat → List Wr → Prop) : Prop := xq P f args dst ⟨t, h⟩ k K .mk
def GV (K : Nat → List AV → Prop) : AV → Prop
 | .func f caps => K f caps
 | _ => False
def run (P : Program) (τ : Nat → TI) (ops : List Oper) : List Oper → Nat → List Eff → List AV → List AObj → (List Eff → List AV → List AObj → Prop) → Prop
 | [], _, es, t, h, K => K es.reverse t h
 | o :: l, k, es, t, h, K => grd ops t
   (fun t => match jR o.op with
    | some (f, args) => GV (fun fid caps => KO t args.toList fun vs => fL (vs ++ caps) fun vs => zJ P fid vs o.dst t h k fun k' ro ws => qZ ws t h fun t' h' => run P τ ops l k' (⟨bI ops.toArray o, ro, ws⟩ :: es) t' h' K) (cK t f)
    | none => stepT τ k o.dst (cK t) (obj? h) (fun rd ws => qZ ws t h fun t' h' => CU (iw o.op) (run P τ ops l k (⟨bI ops.toArray o, rd, ws⟩ :: es) t' h' K) (run P τ ops l (k + 1) (⟨bI ops.toArray o, rd, ws⟩ :: es) t' h' K)) o.op)
   (fun t => qZ (aM o.dst (.tup [])) t h fun t' h' => run P τ ops l k (⟨bI ops.toArray o, [], aM o.dst (.tup [])⟩ :: es) t' h' K) o.guard
theorem abo {P : Program} {ops : List Oper} : ∀ (l : List Oper) (k : Nat) (es : List Eff) (t : List AV) (h : List AObj) (K : List Eff → List AV → List AObj → Prop), run P (TI.of P) ops l k es t h K → ∃ es' s', ATr P ops.toArray l es' ⟨t, h⟩ s' ∧ K (es.reverse ++ es') s'.tmps s'.heap := by
 intro l
 induction l with
 | nil => intro k es t h K hr; exact ⟨[], ⟨t, h⟩, .nil _, by simpa [run] using hr⟩
 | cons o l ih =>
  intro k es t h K hr
  have fin : ∀ (e : Eff) (k' : Nat), zV P ops.toArray o ⟨t, h⟩ e → (qZ e.ws t h fun t' h' => run P (TI.of P) ops l k' (e :: es) t' h' K) → ∃ es' s', ATr P ops.toArray (o :: l) es' ⟨t, h⟩ s' ∧ K (es.reverse ++ es') s'.tmps s'.heap := fun e k' he hw => by
   rw [Oe] at hw
   obtain ⟨es', s', g1, g2⟩ := ih k' (e :: es) _ _ K hw
   exact ⟨e :: es', s', .cons he g1, by simpa using g2⟩
  simp only [run] at hr
  rcases CF hr with ⟨hc, h1⟩ | ⟨hc, h2⟩
  ·cases hcall : jR o.op with
   | none =>
    rw [hcall] at h1
    obtain ⟨rd, ws, g1, g2⟩ := KI h1
    have g2 : ∃ k', qZ ws t h fun t' h' => run P (TI.of P) ops l k' (⟨bI ops.toArray o, rd, ws⟩ :: es) t' h' K := by
     cases hn : iw o.op with
     | zero => simp only [hn, CU] at g2; exact ⟨_, g2⟩
     | succ m => simp only [hn, CU] at g2; exact ⟨_, g2⟩
    obtain ⟨k', g2⟩ := g2
    exact fin ⟨bI ops.toArray o, rd, ws⟩ k' (y9 (s := ⟨t, h⟩) hc g1) g2
   | some p =>
    obtain ⟨f, args⟩ := p
    rw [hcall] at h1
    simp only at h1
    unfold GV at h1
    split at h1
    ·rename_i fid caps g1
     simp only [JF, rG, zJ] at h1
     obtain ⟨hok, ρ, ks, aargs, H, res, H', g2, g3, g4, g5, g6⟩ := h1
     obtain ⟨tt, ho⟩ := sJ hcall
     exact fin _ _ (yZ (s := ⟨t, h⟩) hc ho g1 hok g2 g3 g4 g5) g6
    ·exact h1.elim
  ·exact fin _ k (yL (s := ⟨t, h⟩) hc) h2
def Xg : List Oper → (List AObj → Prop) → Prop
 | [], K => K []
 | o :: l, K => CU (iw o.op) (Xg l K) (Xg l fun r => K (.res :: r))
theorem aat (op : Op) : iw op = 0 ∨ iw op = 1 := by
 unfold iw; split <;> simp
theorem afN : ∀ (l : List Oper) (K : List AObj → Prop), Xg l K → ∃ n, K (List.replicate n .res) := by
 intro l
 induction l with
 | nil => intro K h; exact ⟨0, h⟩
 | cons o l ih =>
  intro K h
  simp only [Xg] at h
  rcases aat o.op with e | e
  ·rw [e] at h; exact ih K h
  ·rw [e] at h
   obtain ⟨n, hn⟩ := ih _ h
   exact ⟨n + 1, hn⟩
def GI (next : List AV → List AObj → Prop) (Q : Exit → List AV → List AObj → Prop) : Exit → List AV → List AObj → Prop
 | .normal, t, h => next t h
 | e, t, h => Q e t h
def adK (id : Nat) (Q : Exit → List AV → List AObj → Prop) : Exit → List AV → List AObj → Prop
 | .exit id', t, h => eY (id' == id) (Q .normal t h) (Q (.exit id') t h)
 | e, t, h => Q e t h
def onS (Q : Exit → List AV → List AObj → Prop) : Exit → ASt → Prop := fun e s => Q e s.tmps s.heap
def aaU (P : Program) (c : Code) (t : List AV) (h : List AObj) (Q : Exit → List AV → List AObj → Prop) : Prop := bX P (.loop c) (onS Q) ⟨t, h⟩
def agO (d : Nat) (t : List AV) (A B : List AV → Prop) : AV → Prop
 | .bool b => eY b (Db t d (.bool true) A) (Db t d (.bool false) B)
 | _ => False
def agJ (t : List AV) (A B : List AV → Prop) : Operand → Prop
 | .tmp d => agO d t A B (t.getD d .unk)
 | .const (.bool b) => eY b (A t) (B t)
 | _ => False
def u7 (P : Program) (τ : Nat → TI) : Code → List AV → List AObj → (Exit → List AV → List AObj → Prop) → Prop
 | .skip, t, h, Q => Q .normal t h
 | .ret, t, h, Q => Q .ret t h
 | .exit id, t, h, Q => Q (.exit id) t h
 | .seq a b, t, h, Q => u7 P τ a t h (GI (fun t h => u7 P τ b t h Q) Q)
 | .cond c a b, t, h, Q => agJ t (fun t => u7 P τ a t h Q) (fun t => u7 P τ b t h Q) c
 | .block id a, t, h, Q => u7 P τ a t h (adK id Q)
 | .loop c, t, h, Q => aaU P c t h Q
 | .region _ l dr, t, h, Q => Xg l.toList fun r => fL (h ++ r) fun h' => Jg h 0 fun k => run P τ l.toList l.toList k [] t h' fun es t h => eY dr (oL l.toList es = true ∧ Q .normal t h) (Q .normal t h)
 | _, _, _, _ => False
theorem NG {P : Program} (hm : P.follows .mixedOrders = true) : ∀ (c : Code) (t : List AV) (h : List AObj) (Q : Exit → List AV → List AObj → Prop), u7 P (TI.of P) c t h Q → bX P c (onS Q) ⟨t, h⟩ := by
 intro c
 induction c with
 | skip => intro t h Q hr; exact bX.skip hr
 | ret => intro t h Q hr; exact bX.ret hr
 | exit id => intro t h Q hr; exact bX.exit hr
 | seq a b iha ihb =>
  intro t h Q hr
  refine bX.seq ((iha _ _ _ hr).mono ?_)
  intro e s hq
  cases e <;> first | exact ihb _ _ _ hq | exact hq
 | cond c a b iha ihb =>
  intro t h Q hr
  simp only [u7] at hr
  unfold agJ at hr
  split at hr
  ·rename_i d
   unfold agO at hr
   split at hr
   ·rename_i x hx
    refine bX.cond (t := x) hx (fun e => ?_) (fun e => ?_)
    ·rcases bC hr with ⟨_, g⟩ | ⟨e2, g⟩
     ·rw [zh, set_self (by rw [hx, e])] at g; exact iha _ _ _ g
     ·rw [e] at e2; cases e2
    ·rcases bC hr with ⟨e2, g⟩ | ⟨_, g⟩
     ·rw [e] at e2; cases e2
     ·rw [zh, set_self (by rw [hx, e])] at g; exact ihb _ _ _ g
   ·exact hr.elim
  ·rename_i x
   refine bX.cond (t := x) rfl (fun e => ?_) (fun e => ?_)
   ·rcases bC hr with ⟨_, g⟩ | ⟨e2, g⟩
    ·exact iha _ _ _ g
    ·rw [e] at e2; cases e2
   ·rcases bC hr with ⟨e2, g⟩ | ⟨_, g⟩
    ·rw [e] at e2; cases e2
    ·exact ihb _ _ _ g
  ·exact hr.elim
 | block id a iha =>
  intro t h Q hr
  refine bX.block ((iha _ _ _ hr).mono ?_)
  intro e s hq
  cases e with
  | exit id' =>
   rcases bC hq with ⟨e, g⟩ | ⟨e, g⟩
   ·simp only [tL]; rw [if_pos (by simpa using e)]; exact g
   ·simp only [tL]; rw [if_neg (by simpa using e)]; exact g
  | _ => exact hq
 | loop c _ => intro t h Q hr; exact hr
 | region id l dr =>
  intro t h Q hr
  simp only [u7] at hr
  obtain ⟨n, hr⟩ := afN _ _ hr
  simp only [rG, JG] at hr
  obtain ⟨es, s', h1, h2⟩ := abo _ _ _ _ _ _ hr
  simp only [List.reverse_nil, List.nil_append] at h2
  have hl : l = l.toList.toArray := by simp
  rw [hl]
  rcases bC h2 with ⟨rfl, g1, g2⟩ | ⟨rfl, g⟩
  ·exact bX.drawn (s := ⟨t, h⟩) n hm h1 g1 g2
  ·exact bX.region (s := ⟨t, h⟩) n h1.steps g
 | _ => intro t h Q hr; exact hr.elim
inductive Tr where
 | nil
 | node (l : Tr) (key : Nat) (x : TI) (r : Tr)
def Tr.look (d : Nat → TI) (t : Nat) : Tr → TI
 | .nil => d t
 | .node l k x r => match Nat.ble t k with
  | true => match Nat.beq t k with
   | true => x
   | false => Tr.look d t l
  | false => Tr.look d t r
def Tr.keys : Tr → List Nat
 | .nil => []
 | .node l k _ r => l.keys ++ k :: r.keys
def Tr.vals : Tr → List TI
 | .nil => []
 | .node l _ x r => l.vals ++ x :: r.vals
theorem Tr.len : ∀ T : Tr, T.keys.length = T.vals.length
 | .nil => rfl
 | .node l k x r => by simp [keys, vals, Tr.len l, Tr.len r]
theorem Tr.look_eq (d : Nat → TI) (t : Nat) : ∀ T : Tr, T.keys.map d = T.vals → T.look d t = d t
 | .nil, _ => rfl
 | .node l k x r, h => by
  simp only [keys, vals, List.map_append, List.map_cons] at h
  have h1 := List.append_inj h (by simp [Tr.len l])
  obtain ⟨h1, h2⟩ := h1
  simp only [List.cons.injEq] at h2
  unfold Tr.look
  split
  ·split
   ·rename_i hb
    have : t = k := Nat.eq_of_beq_eq_true hb
    rw [this]; exact h2.1.symm
   ·exact Tr.look_eq d t l h1
  ·exact Tr.look_eq d t r h2.2
theorem agK {P : Program} {T : Tr} (h : T.keys.map (TI.of P) = T.vals) : (fun t => T.look (TI.of P) t) = TI.of P := funext fun t => Tr.look_eq _ t T h
def resT (τ : Nat → TI) (t : List AV) (h : List AObj) : List ResultVar → (List AV → Prop) → Prop
 | [], K => K []
 | .tmp n :: r, K => KA (t.getD n .unk) fun v => resT τ t h r fun vs => K (v :: vs)
 | .cell a ty :: r, K => match t.getD a .unk with
  | .ptr l off => match obj? h l with
   | .box cs => eG (loadT τ ty (cs.drop off)) fun v => KA v fun v => resT τ t h r fun vs => K (v :: vs)
   | _ => False
  | _ => False
theorem Aq {P : Program} {t : List AV} {h : List AObj} : ∀ (rs : List ResultVar) (K : List AV → Prop), resT (TI.of P) t h rs K → ∃ xs, vI P ⟨t, h⟩ rs = some xs ∧ K xs := by
 intro rs
 induction rs with
 | nil => intro K hr; exact ⟨[], rfl, hr⟩
 | cons r rs ih =>
  intro K hr
  cases r with
  | tmp n =>
   simp only [resT, zL] at hr
   obtain ⟨xs, h1, h2⟩ := ih _ hr
   exact ⟨_, by simp only [vI, h1]; rfl, h2⟩
  | cell a ty =>
   simp only [resT] at hr
   split at hr
   ·rename_i l off hp
    split at hr
    ·rename_i cs hb
     obtain ⟨v, h1, h2⟩ := bK hr
     rw [zL] at h2
     obtain ⟨xs, h3, h4⟩ := ih _ h2
     rw [Lj] at h1
     exact ⟨_, by simp only [vI, hp, hb, h1, h3]; rfl, h4⟩
    ·exact hr.elim
   ·exact hr.elim
def Ends (v res : AV) : Prop := v = res
def ahA (τ : Nat → TI) (rs : List ResultVar) (res : AV) : Exit → List AV → List AObj → Prop
 | .normal, t, h => resT τ t h rs fun xs => KA (xA true xs) fun v => Ends v res
 | .ret, t, h => resT τ t h rs fun xs => KA (xA true xs) fun v => Ends v res
 | _, _, _ => False
def Bz (n : Nat) (args : List AV) (K : List AV → Prop) : Prop := fL (args ++ List.replicate (n - args.length) (.tup [])) K
theorem pure_run {P : Program} {τ : Nat → TI} {f : Nat} {fn : Func} {c : Code} {args : List AV} {res : AV} (hτ : τ = TI.of P) (hm : P.follows .mixedOrders = true) (hf : P.funcs[f]? = some fn) (hb : fn.body = some c)
  (hlen : args.length ≤ fn.ntmps) (ha : ∀ g, args.map (ren g) = args) (hr : ∀ g, ren g res = res) (h : Bz fn.ntmps args fun t => u7 P τ c t [] (ahA τ fn.results.toList res)) : Nv P f args res := by
 subst hτ
 refine aar ha hr hf hb hlen ?_
 unfold Bz at h
 rw [rG] at h
 refine (NG hm _ _ _ _ h).mono ?_
 intro e s hq
 cases e with
 | normal =>
  obtain ⟨xs, h1, h2⟩ := Aq _ _ hq
  rw [zL] at h2
  exact ⟨xs, h1, h2⟩
 | ret =>
  obtain ⟨xs, h1, h2⟩ := Aq _ _ hq
  rw [zL] at h2
  exact ⟨xs, h1, h2⟩
 | _ => exact hq.elim
theorem zJ.pure {P : Program} {f : Nat} {args : List AV} {dst : Option Tmp} {t : List AV} {h : List AObj} {k : Nat} {K : Nat → List Nat → List Wr → Prop} {res : AV} (hc : Nv P f args res) (hok : aY P f = true) (hK : K k [] (aM dst res)) : zJ P f args dst t h k K := xq.pure hc hok hK
theorem aaU.intro {P : Program} {τ : Nat → TI} {c : Code} {t : List AV} {h : List AObj} {Q : Exit → List AV → List AObj → Prop} (hτ : τ = TI.of P) (hm : P.follows .mixedOrders = true) (I : Nat → List AV → List AObj → Prop) {n : Nat} (h0 : I n t h)
  (round : ∀ n t h, I n t h → u7 P τ c t h (GI (fun t' h' => ∃ m, m < n ∧ I m t' h') Q)) : aaU P c t h Q := by
 subst hτ
 refine bX.loop (fun n s => I n s.tmps s.heap) h0 fun n s hI => (NG hm _ _ _ _ (round n s.tmps s.heap hI)).mono ?_
 intro e s' hq
 cases e <;> exact hq
theorem W.seq {P : Program} {τ : Nat → TI} {a b : Code} {t : List AV} {h : List AObj} {Q : Exit → List AV → List AObj → Prop}
  (hs : ∀ K : List AV → List AObj → Prop, (∀ t h, u7 P τ b t h Q → K t h) → u7 P τ a t h (GI K Q)) : u7 P τ (.seq a b) t h Q := hs _ fun _ _ h => h
theorem W.block {P : Program} {τ : Nat → TI} {id : Nat} {a : Code} {t : List AV} {h : List AObj} {Q : Exit → List AV → List AObj → Prop}
  (hs : ∀ R : Exit → List AV → List AObj → Prop, (∀ e t h, adK id Q e t h → R e t h) → u7 P τ a t h R) : u7 P τ (.block id a) t h Q := hs _ fun _ _ _ h => h
theorem W.start {P : Program} {τ : Nat → TI} {f : Nat} {fn : Func} {c : Code} {args : List AV} {res : AV} (hτ : τ = TI.of P) (hm : P.follows .mixedOrders = true) (hf : P.funcs[f]? = some fn) (hb : fn.body = some c)
  (hlen : args.length ≤ fn.ntmps) (ha : ∀ g, args.map (ren g) = args) (hr : ∀ g, ren g res = res)
  (h : ∀ Q : Exit → List AV → List AObj → Prop, (∀ e t h, ahA τ fn.results.toList res e t h → Q e t h) → ∀ t, Bz fn.ntmps args (fun u => t = u) → u7 P τ c t [] Q) : Nv P f args res := by
 refine pure_run hτ hm hf hb hlen ha hr ?_
 unfold Bz
 rw [rG]
 exact h _ (fun _ _ _ h => h) _ (by unfold Bz; rw [rG])
abbrev QT := Exit → List AV → List AObj → Prop
def AW (P : Program) (m : Nat) (c : Code) (Q : QT) (t : List AV) (h : List AObj) : Prop :=
 ∀ (C : Ctx) (κ : bA) (a : Act) (w : World), C.k0.length ≤ m → Sim C κ ⟨t, h⟩ a w → c.wp P (fun e a' w' => ∃ s' κ', onS Q e s' ∧ Sim C κ' s' a' w') a w
theorem AW.of {P : Program} {m : Nat} {c : Code} {Q : QT} {t : List AV} {h : List AObj} (hw : bX P c (onS Q) ⟨t, h⟩) : AW P m c Q t h := fun C κ a w _ hs => hw C κ a w hs
theorem AW.mono {P : Program} {m : Nat} {c : Code} {Q Q' : QT} {t : List AV} {h : List AObj} (hw : AW P m c Q t h) (hq : ∀ e t h, Q e t h → Q' e t h) : AW P m c Q' t h :=
 fun C κ a w hk hs => wp_mono (hw C κ a w hk hs) fun _ _ _ ⟨s', κ', h1, h2⟩ => ⟨s', κ', hq _ _ _ h1, h2⟩
theorem AW.skip {P : Program} {m : Nat} {Q : QT} {t : List AV} {h : List AObj} (hq : Q .normal t h) : AW P m .skip Q t h := AW.of (bX.skip hq)
theorem AW.ret {P : Program} {m : Nat} {Q : QT} {t : List AV} {h : List AObj} (hq : Q .ret t h) : AW P m .ret Q t h := AW.of (bX.ret hq)
theorem AW.exit {P : Program} {m : Nat} {Q : QT} {t : List AV} {h : List AObj} {id : Nat} (hq : Q (.exit id) t h) : AW P m (.exit id) Q t h := AW.of (bX.exit hq)
theorem AW.seq {P : Program} {m : Nat} {x y : Code} {Q : QT} {t : List AV} {h : List AObj} (hw : AW P m x (GI (AW P m y Q) Q) t h) : AW P m (.seq x y) Q t h := by
 intro C κ a w hk hs
 refine wp_seq (wp_mono (hw C κ a w hk hs) ?_)
 rintro e a' w' ⟨s', κ', h1, h2⟩
 cases e with
 | normal => exact h1 C κ' a' w' hk h2
 | exit id => exact ⟨s', κ', h1, h2⟩
 | goto l => exact ⟨s', κ', h1, h2⟩
 | ret => exact ⟨s', κ', h1, h2⟩
 | panic c => exact ⟨s', κ', h1, h2⟩
 | outgrown => exact ⟨s', κ', h1, h2⟩
theorem AW.dP {P : Program} {m : Nat} {x y : Code} {Q : QT} {t : List AV} {h : List AObj} (hw : ∀ K : List AV → List AObj → Prop, (∀ t h, AW P m y Q t h → K t h) → AW P m x (GI K Q) t h) : AW P m (.seq x y) Q t h :=
 AW.seq (hw _ fun _ _ h => h)
theorem AW.cond {P : Program} {m : Nat} {c : Operand} {x y : Code} {Q : QT} {t : List AV} {h : List AObj} {b : Bool} (hc : cK t c = .bool b) (h1 : b = true → AW P m x Q t h) (h2 : b = false → AW P m y Q t h) : AW P m (.cond c x y) Q t h := by
 intro C κ a w hk hs
 have hr := hs.ev c
 have : cK (ASt.mk t h).tmps c = .bool b := hc
 rw [this] at hr
 exact wp_cond_split hr.BF (fun ht => h1 ht C κ a w hk hs) (fun ht => h2 ht C κ a w hk hs)
theorem AW.block {P : Program} {m id : Nat} {c : Code} {Q : QT} {t : List AV} {h : List AObj} (hw : AW P m c (adK id Q) t h) : AW P m (.block id c) Q t h := by
 intro C κ a w hk hs
 refine wp_block (wp_mono (hw C κ a w hk hs) ?_)
 rintro e a' w' ⟨s', κ', h1, h2⟩
 cases e with
 | exit id' =>
  simp only [Exit.inBlock]
  rcases bC h1 with ⟨e, g⟩ | ⟨e, g⟩
  ·rw [if_pos (by simpa using e)]; exact ⟨s', κ', g, h2⟩
  ·rw [if_neg (by simpa using e)]; exact ⟨s', κ', g, h2⟩
 | normal => exact ⟨s', κ', h1, h2⟩
 | goto l => exact ⟨s', κ', h1, h2⟩
 | ret => exact ⟨s', κ', h1, h2⟩
 | panic c => exact ⟨s', κ', h1, h2⟩
 | outgrown => exact ⟨s', κ', h1, h2⟩
theorem AW.loop {P : Program} {m : Nat} {c : Code} {Q : QT} {t : List AV} {h : List AObj} (I : Nat → List AV → List AObj → Prop) {n : Nat} (h0 : I n t h) (round : ∀ n t h, I n t h → AW P m c (GI (fun t' h' => ∃ k, k < n ∧ I k t' h') Q) t h) : AW P m (.loop c) Q t h := by
 intro C κ a w hk hs
 refine wp_loop_ghost (Q := fun e a' w' => ∃ s' κ', onS Q e s' ∧ Sim C κ' s' a' w') (fun n a w => ∃ s κ, I n s.tmps s.heap ∧ Sim C κ s a w) n ⟨⟨t, h⟩, κ, h0, hs⟩ ?_
 rintro n a w ⟨s, κ, hI, hs⟩
 refine wp_mono (round n s.tmps s.heap hI C κ a w hk hs) ?_
 rintro e a' w' ⟨s', κ', h1, h2⟩
 cases e with
 | normal =>
  obtain ⟨m, hm, hI'⟩ := h1
  exact ⟨m, hm, s', κ', hI', h2⟩
 | exit id => exact ⟨s', κ', h1, h2⟩
 | goto l => exact ⟨s', κ', h1, h2⟩
 | ret => exact ⟨s', κ', h1, h2⟩
 | panic c => exact ⟨s', κ', h1, h2⟩
 | outgrown => exact ⟨s', κ', h1, h2⟩
def VF : AV → Prop
 | .int k n => qb k n
 | .str s => s.length ≤ 9223372036854775807
 | .slice es _ => es.length ≤ 9223372036854775807
 | .psl _ _ n => n ≤ 140737488355328
 | _ => True
theorem Rel.vf {w : World} {κ : bA} {pv : bN} {x : AV} {v : Value} (h : Rel w κ pv x v) : VF x := by
 cases h <;> first | trivial | assumption
def parts : AV → List AV
 | .agg cs => cs
 | .tup cs => cs
 | .eptr cs => cs
 | .func _ cs => cs
 | v => [v]
theorem Rel.parts {w : World} {κ : bA} {pv : bN} {x : AV} {v : Value} (h : Rel w κ pv x v) (j : Nat) : VF ((Abs.parts x).getD j .unk) := by
 have key : ∀ cs : List AV, (∀ i, i < cs.length → VF (cs.getD i .unk)) → VF (cs.getD j .unk) := fun cs hc => by
  by_cases hj : j < cs.length
  ·exact hc j hj
  ·rw [List.getD, List.getElem?_eq_none (Nat.le_of_not_lt hj)]; trivial
 cases h with
 | agg h1 h2 => exact key _ fun i hi => (h2 i hi).vf
 | tup h1 h2 => exact key _ fun i hi => (h2 i hi).vf
 | func h1 h2 => exact key _ fun i hi => (h2 i hi).vf
 | eptr u h1 h2 h3 => exact key _ fun i hi => (h3 i hi).vf
 | unk v => exact key [.unk] fun i hi => by simp at hi; subst hi; trivial
 | int g => exact key [_] fun i hi => by simp at hi; subst hi; exact g
 | bool b => exact key [_] fun i hi => by simp at hi; subst hi; trivial
 | str g => exact key [_] fun i hi => by simp at hi; subst hi; exact g
 | nilp => exact key [_] fun i hi => by simp at hi; subst hi; trivial
 | ptr _ => exact key [_] fun i hi => by simp at hi; subst hi; trivial
 | mapr _ => exact key [_] fun i hi => by simp at hi; subst hi; trivial
 | nilFunc => exact key [_] fun i hi => by simp at hi; subst hi; trivial
 | psl _ g _ => exact key [_] fun i hi => by simp at hi; subst hi; exact g
 | flnil => exact key [_] fun i hi => by simp at hi; subst hi; trivial
 | flcons _ _ _ _ _ _ _ => exact key [_] fun i hi => by simp at hi; subst hi; trivial
 | slice b off sz u h1 h2 h3 h3' _ _ _ _ => exact key [_] fun i hi => by simp at hi; subst hi; exact h3'
theorem AW.know {P : Program} {m : Nat} {c : Code} {Q : QT} {t : List AV} {h : List AObj} (n j : Nat) (hw : VF ((parts (t.getD n .unk)).getD j .unk) → AW P m c Q t h) : AW P m c Q t h := by
 intro C κ a w hk hs
 refine hw ?_ C κ a w hk hs
 by_cases hn : n < t.length
 ·exact (hs.slot n hn).parts j
 ·have : t.getD n .unk = .unk := by rw [List.getD, List.getElem?_eq_none (Nat.le_of_not_lt hn)]; rfl
  rw [this]
  cases j with
  | zero => trivial
  | succ j => trivial
theorem AW.Uz {P : Program} {m : Nat} {c : Code} {Q : QT} {t : List AV} {h : List AObj} (l j : Nat) (hw : VF (((match obj? h l with | .box cs => cs | _ => []) : List AV).getD j .unk) → AW P m c Q t h) (hn : ∃ n o, t.getD n .unk = .ptr l o) : AW P m c Q t h := by
 intro C κ a w hk hs
 refine hw ?_ C κ a w hk hs
 obtain ⟨n, o, hn⟩ := hn
 have hr := hs.ev (.tmp n)
 simp only [cK] at hr
 have e : (ASt.mk t h).tmps.getD n .unk = .ptr l o := hn
 rw [e] at hr
 obtain ⟨b, _, hb⟩ := hr.oI
 split
 ·rename_i cs ho
  obtain ⟨c, el, g1, g2, g3, g4⟩ := hs.box hb ho
  by_cases hj : j < cs.length
  ·exact (g4 j hj).vf
  ·rw [List.getD, List.getElem?_eq_none (Nat.le_of_not_lt hj)]; trivial
 ·rw [List.getD]; trivial
def mU (L : List (Option Nat)) (big i : Nat) : Nat := ((L[i]?).getD none).getD big
inductive VW (h : List AObj) (L : List (Option Nat)) : AV → AV → Prop where
 | unk (v : AV) : VW h L .unk v
 | same {x y : AV} : ren (mU L h.length) x = y → VW h L x y
 | share {es es' : List (List AV)} {t : Tag} : bq (mU L h.length) es = es' → VW h L (.slice es .shared) (.slice es' t)
 | nils (j z : Nat) : VW h L (.slice [] (.tip j z)) (.slice [] .nils)
 | nilF : VW h L (.flist []) .nilp
 | frzF {l : Nat} {cs cs' : List AV} {r : List (List AV)} {v : AV} : obj? h l = .box (cs' ++ [v]) → some l ∉ L → cs.length = cs'.length → (∀ j, j < cs.length → VW h L (cs.getD j .unk) (cs'.getD j .unk)) → VW h L (.flist r) v → VW h L (.flist (cs :: r)) (.ptr l 0)
 | nilP (j z : Nat) : VW h L (.psl j z 0) (.slice [] .nils)
 | frzP {l z n : Nat} {es es0 : List (List AV)} : obj? h l = .arr z es0 → some l ∉ L → n ≤ es0.length → bq (mU L h.length) es = es0.take n → VW h L (.slice es .shared) (.psl l z n)
 | agg {cs cs' : List AV} : cs.length = cs'.length → (∀ j, VW h L (cs.getD j .unk) (cs'.getD j .unk)) → VW h L (.agg cs) (.agg cs')
 | tup {cs cs' : List AV} : cs.length = cs'.length → (∀ j, VW h L (cs.getD j .unk) (cs'.getD j .unk)) → VW h L (.tup cs) (.tup cs')
 | func {f : Nat} {cs cs' : List AV} : cs.length = cs'.length → (∀ j, VW h L (cs.getD j .unk) (cs'.getD j .unk)) → VW h L (.func f cs) (.func f cs')
 | frz {l off : Nat} {cs cs' : List AV} : obj? h l = .box cs' → some l ∉ L → cs.length + off ≤ cs'.length → (∀ j, VW h L (cs.getD j .unk) (cs'.getD (off + j) .unk)) → VW h L (.eptr cs) (.ptr l off)
inductive OW (h : List AObj) (L : List (Option Nat)) : AObj → AObj → Prop where
 | dead (o : AObj) : OW h L .dead o
 | box {cs cs' : List AV} : cs.length = cs'.length → (∀ j, VW h L (cs.getD j .unk) (cs'.getD j .unk)) → OW h L (.box cs) (.box cs')
 | tip (n : Nat) : OW h L (.tip n) (.tip n)
 | arr {z n : Nat} {es es0 : List (List AV)} : bq (mU L h.length) es = es0.take n → OW h L (.arr z es) (.arr z es0)
 | same {o o' : AObj} : bT o = false → bS (mU L h.length) o = o' → OW h L o o'
structure Weak (m : Nat) (t : List AV) (h : List AObj) (L : List (Option Nat)) (t' : List AV) (h' : List AObj) : Prop where
 tlen : t'.length = t.length
 hlen : L.length = h'.length
 idm : ∀ i : Nat, i < m → L[i]? = some (some i)
 inj : ∀ i j l : Nat, L[i]? = some (some l) → L[j]? = some (some l) → live (obj? h' i) → live (obj? h' j) → i = j
 lt : ∀ i l : Nat, L[i]? = some (some l) → l < h.length
 slot : ∀ n, VW h L (t'.getD n .unk) (t.getD n .unk)
 obj : ∀ i l : Nat, L[i]? = some (some l) → OW h L (obj? h' i) (obj? h l)
 new : ∀ i : Nat, L[i]? = some none → bT (obj? h' i) = false
section
variable {C : Ctx} {κ : bA} {t : List AV} {h : List AObj} {a : Act} {w : World} {m : Nat} {L : List (Option Nat)} {t' : List AV} {h' : List AObj}
def wm (κ : bA) (L : List (Option Nat)) : bA := L.map fun o => o.bind (at? κ)
theorem at?_kapW {i : Nat} (hk : κ.length = h.length) : at? (wm κ L) i = at? κ (mU L h.length i) := by
 unfold wm mU
 simp only [at?, List.getElem?_map]
 cases hi : L[i]? with
 | none => simp [List.getElem?_eq_none (show κ.length ≤ h.length by omega)]
 | some o => cases o with
  | none => simp [List.getElem?_eq_none (show κ.length ≤ h.length by omega)]
  | some l => simp [at?]
theorem pq {i b : Nat} (hb : at? (wm κ L) i = some b) : ∃ l, L[i]? = some (some l) ∧ at? κ l = some b := by
 unfold wm at hb
 simp only [at?, List.getElem?_map] at hb
 cases hi : L[i]? with
 | none => rw [hi] at hb; cases hb
 | some o => cases o with
  | none => rw [hi] at hb; cases hb
  | some l => rw [hi] at hb; exact ⟨l, rfl, hb⟩
theorem OW.live {o o' : AObj} (hw : OW h L o o') (hl : live o) : live o' := by
 cases hw with
 | dead _ => exact hl.elim
 | box _ _ => trivial
 | tip _ => trivial
 | arr _ => trivial
 | same _ e => rw [← e, fM]; exact hl
theorem OW.pv {o o' : AObj} {n : Nat} (hw : OW h L o o') (hp : nC o n) : nC o' n := by
 cases hw with
 | dead _ => exact hp.elim
 | box _ _ => trivial
 | tip _ => exact hp
 | arr _ => trivial
 | same _ e => rw [← e, wN]; exact hp
theorem Weak.pv (hs : Sim C κ ⟨t, h⟩ a w) (hw : Weak m t h L t' h') {b o : Nat} (hp : aP C.aO (wm κ L) h' b o) : aP C.aO κ h b o := by
 rcases hp with hp | ⟨i, h1, h2⟩
 ·exact .inl hp
 ·obtain ⟨l, hl, hb⟩ := pq h1
  exact .inr ⟨l, hb, (hw.obj i l hl).pv h2⟩
theorem Weak.val (hs : Sim C κ ⟨t, h⟩ a w) (hw : Weak m t h L t' h') {x y : AV} (hv : VW h L x y) : ∀ {u : Value}, Rel w κ (aP C.aO κ h) y u → Rel w (wm κ L) (aP C.aO (wm κ L) h') x u := by
 have hat : ∀ i, at? (wm κ L) i = at? κ (mU L h.length i) := fun i => at?_kapW hs.klen
 have key : ∀ (x : AV) {u : Value}, Rel w κ (aP C.aO κ h) (ren (mU L h.length) x) u → Rel w (wm κ L) (aP C.aO (wm κ L) h') x u := fun x u hx =>
  (hx.uX hat _ rfl).mono (Evo.refl _ _) (cZ.refl _) fun b o hp _ => hw.pv hs hp
 induction hv with
 | unk v => intro u _; exact .unk u
 | same e => intro u hu; rw [← e] at hu; exact key _ hu
 | share e => intro u hu; rw [← e] at hu; exact key (.slice _ .shared) hu.share
 | nils j z =>
  intro u hu
  cases hu with
  | slice b off sz y g1 g2 g3 g3' g4 g5 g6 gt =>
   exact .slice (es := []) (tag := .tip j z) b off z y (fun i hi => by cases hi) (fun hne => (hne rfl).elim) g3 g3' (fun i j hi => by cases hi) (fun i j hi => by cases hi) (fun i j hi => by cases hi) ⟨rfl, .inl gt⟩
 | nilF => intro u hu; cases hu; exact .flnil
 | @frzF l cs cs' r v ho hn hl _ _ ih1 ih2 =>
  intro u hu
  obtain ⟨b, e, hb⟩ := hu.oI
  subst e
  obtain ⟨c, el, g1, g2, g3, g4⟩ := hs.box hb ho
  have hlen : (cs' ++ [v]).length = cs.length + 1 := by simp [hl]
  have hlive : live (obj? h l) := by rw [ho]; trivial
  refine .flcons (fun j => c.getD j undef) (c.getD cs.length undef) (fun j hj hp => ?_) (fun j hj => by rw [Nat.zero_add]; exact g3 j (by omega)) (by rw [Nat.zero_add]; exact g3 _ (by omega)) (fun j hj => ih1 j hj ?_) (ih2 ?_)
  ·rcases hp with hp | ⟨i, h1, h2⟩
   ·exact hs.own l b hb hlive (hs.pvold _ _ hp)
   ·obtain ⟨l', hl', hb'⟩ := pq h1
    have := hs.apart l l' b hb hb' hlive (AU ((hw.obj i l' hl').pv h2))
    subst this
    exact hn (List.mem_of_getElem? hl')
  ·have := g4 j (by omega)
   have e2 : (cs' ++ [v]).getD j .unk = cs'.getD j .unk := by simp [List.getD, List.getElem?_append_left (show j < cs'.length by omega)]
   rw [e2] at this; exact this
  ·have := g4 cs.length (by omega)
   have e2 : (cs' ++ [v]).getD cs.length .unk = v := by rw [hl]; simp [List.getD]
   rw [e2] at this; exact this
 | nilP j z =>
  intro u hu
  cases hu with
  | slice b off sz y g1 g2 g3 g3' g4 g5 g6 gt =>
   exact .psl (Nat.zero_le _) (by omega) ⟨rfl, .inl gt⟩
 | @frzP l z n es es0 ho hn hle he =>
  intro u hu
  cases hu with
  | @psl _ _ _ cap ad g1 g2 g3 =>
   have hlen : es.length = n := by
    have := congrArg List.length he
    rw [iB, List.length_take] at this; omega
   have hget : ∀ i, i < n → bD (mU L h.length) (es.getD i []) = es0.getD i [] := fun i hi => by
    rw [← lW, he]
    simp only [List.getD, List.getElem?_take, if_pos hi]
   obtain ⟨_, ht⟩ := g3
   rcases ht with ⟨rfl, rfl⟩ | ⟨b, c, e, t1, rfl, t3, t4⟩
   ·have : es = [] := List.length_eq_zero_iff.1 (by omega)
    subst this
    have hn0 : n = 0 := by simpa using hlen.symm
    subst hn0
    exact .slice (es := []) 0 0 z (fun _ _ => undef) (fun i h => by cases h) (fun h => (h rfl).elim) (Nat.zero_le _) (by simp) (fun i j h => by cases h) (fun i j h => by cases h) (fun i j h => by cases h) trivial
   ·have hlive : live (obj? h l) := by rw [ho]; trivial
    have hob := hs.obj l b t1 hlive
    change lF w κ (aP C.aO κ h) b (obj? h l) at hob
    rw [ho] at hob
    obtain ⟨c0, e0, q1, q2, q3, q4⟩ := hob
    rw [t3] at q1; cases q1
    rw [← hlen] at g1 g2 ⊢
    refine .slice b 0 z (fun i j => c.getD (i * z + j) undef) ?_ (fun _ => rfl) g1 (by omega) ?_ ?_ ?_ trivial
    ·intro i hi
     have h5 := hget i (by omega)
     have h6 := q3 i (by omega)
     rw [← h5, gN] at h6; exact h6
    ·rintro i j hi hj (hp | ⟨i', h1, h2⟩)
     ·exact hs.own l b t1 hlive (hs.pvold _ _ hp)
     ·obtain ⟨l', hl', hb'⟩ := pq h1
      have := hs.apart l l' b t1 hb' hlive (AU ((hw.obj i' l' hl').pv h2))
      subst this
      exact hn (List.mem_of_getElem? hl')
    ·intro i j hi hj
     have h2 : i * z + j < c.size := Nat.lt_of_lt_of_le (oq (show i < es0.length by omega) hj) q2
     simp [World.cell?, t3, Array.getD, h2]
    ·intro i j hi hj
     have h5 := hget i (by omega)
     refine key _ ?_
     rw [← fG, h5]
     exact q4 i j (by omega) hj
 | agg hl _ ih =>
  intro u hu
  obtain ⟨vs, e, g1, g2⟩ := hu.Y0
  subst e
  exact .agg (g1.trans hl.symm) fun j hj => ih j (g2 j (by omega))
 | tup hl _ ih =>
  intro u hu
  obtain ⟨vs, e, g1, g2⟩ := hu.Pg
  subst e
  exact .tup (g1.trans hl.symm) fun j hj => ih j (g2 j (by omega))
 | func hl _ ih =>
  intro u hu
  obtain ⟨vs, e, g1, g2⟩ := hu.Bn
  subst e
  exact .func (g1.trans hl.symm) fun j hj => ih j (g2 j (by omega))
 | @frz l off cs cs' ho hn hl _ ih =>
  intro u hu
  obtain ⟨b, e, hb⟩ := hu.oI
  subst e
  obtain ⟨c, el, g1, g2, g3, g4⟩ := hs.box hb ho
  refine .eptr (fun j => c.getD (off + j) undef) (fun j hj hp => ?_) (fun j hj => g3 _ (by omega)) fun j hj => ih j (g4 _ (by omega))
  have hlive : live (obj? h l) := by rw [ho]; trivial
  rcases hp with hp | ⟨i, h1, h2⟩
  ·exact hs.own l b hb hlive (hs.pvold _ _ hp)
  ·obtain ⟨l', hl', hb'⟩ := pq h1
   have := hs.apart l l' b hb hb' hlive (AU ((hw.obj i l' hl').pv h2))
   subst this
   exact hn (List.mem_of_getElem? hl')
theorem Weak.sim (hk : C.k0.length ≤ m) (hs : Sim C κ ⟨t, h⟩ a w) (hw : Weak m t h L t' h') : Sim C (wm κ L) ⟨t', h'⟩ a w := by
 have hat : ∀ i, at? (wm κ L) i = at? κ (mU L h.length i) := fun i => at?_kapW hs.klen
 refine ⟨hs.defers, hs.len.trans hw.tlen.symm, ?_, by simp [wm, hw.hlen], ?_, ?_, ?_, ?_, ?_, ?_, hs.pvold, hs.oldlt, hs.old, hs.os, hs.tape, hs.output, hs.size, fun b o hp hlt => hs.pvsub b o (hw.pv hs hp) hlt, hs.pY⟩
 ·intro n hn
  exact hw.val hs (hw.slot n) (hs.slot n (by rw [← hw.tlen]; exact hn))
 ·intro l b hb
  have hlt := lt_of_at? hb
  have := hw.idm l (by omega)
  rw [hat]; simp only [mU, this, Option.getD_some]
  exact hs.kext l b hb
 ·intro i hi
  cases hL : L[i]? with
  | none => rw [hat]; simp only [mU, hL, Option.getD_none]; exact at?_none_of_le (by rw [hs.klen]; exact Nat.le_refl _)
  | some o => cases o with
   | none => rw [hat]; simp only [mU, hL, Option.getD_none, Option.getD_some]; exact at?_none_of_le (by rw [hs.klen]; exact Nat.le_refl _)
   | some l =>
    exfalso
    have := hw.obj i l hL
    change obj? h' i = .res at hi
    rw [hi] at this
    cases this with
    | same h1 _ => cases h1
 ·intro i b hb hl
  obtain ⟨l, hL, hb'⟩ := pq hb
  have ho := hw.obj i l hL
  have hr := hs.obj l b hb' (ho.live hl)
  change lF w (wm κ L) (aP C.aO (wm κ L) h') b (obj? h' i)
  change live (obj? h' i) at hl
  generalize he : obj? h' i = o at *
  generalize he2 : obj? h l = o2 at *
  cases ho with
  | dead _ => exact hl.elim
  | box e hv =>
   obtain ⟨c, e', g1, g2, g3⟩ := hr
   exact ⟨c, e', g1, g2.trans e.symm, fun j hj => hw.val hs (hv j) (g3 j (by omega))⟩
  | tip n =>
   exact hr
  | @arr z n es es0 e =>
   obtain ⟨c, e', g1, g2, g3, g4⟩ := hr
   have hlen : es.length ≤ es0.length ∧ es.length ≤ n := by
    have := congrArg List.length e
    rw [iB, List.length_take] at this; omega
   have hget : ∀ i, i < es.length → bD (mU L h.length) (es.getD i []) = es0.getD i [] := fun i hi => by
    rw [← lW, e]
    simp only [List.getD, List.getElem?_take, if_pos (show i < n by omega)]
   refine ⟨c, e', g1, Nat.le_trans (Nat.mul_le_mul_right _ hlen.1) g2, fun i hi => ?_, fun i j hi hj => ?_⟩
   ·have h6 := g3 i (by omega)
    rw [← hget i hi, gN] at h6; exact h6
   ·refine hw.val hs (.same rfl) ?_
    rw [← fG, hget i hi]
    exact g4 i j (by omega) hj
  | same _ e =>
   rw [← e] at hr
   exact (hr.uX hat).mono rfl (Evo.refl _ _) (cZ.refl _) fun b o hp _ => hw.pv hs hp
 ·intro i j b h1 h2 h3 h4
  obtain ⟨l, hL, hb⟩ := pq h1
  obtain ⟨l', hL', hb'⟩ := pq h2
  have := hs.apart l l' b hb hb' ((hw.obj i l hL).live h3) ((hw.obj j l' hL').live h4)
  subst this
  exact hw.inj i j l hL hL' h3 h4
 ·intro i b h1 h2
  obtain ⟨l, hL, hb⟩ := pq h1
  exact hs.own l b hb ((hw.obj i l hL).live h2)
 ·intro i b h1
  obtain ⟨l, _, hb⟩ := pq h1
  exact hs.bound l b hb
end
def Le (m : Nat) (t : List AV) (h : List AObj) (t' : List AV) (h' : List AObj) : Prop :=
 ∀ (C : Ctx) (κ : bA) (a : Act) (w : World), C.k0.length ≤ m → Sim C κ ⟨t, h⟩ a w → ∃ κ', Sim C κ' ⟨t', h'⟩ a w
theorem Le.of {m : Nat} {t t' : List AV} {h h' : List AObj} (L : List (Option Nat)) (hw : Weak m t h L t' h') : Le m t h t' h' := fun _ _ _ _ hk hs => ⟨_, hw.sim hk hs⟩
theorem Le.trans {m : Nat} {t t' t'' : List AV} {h h' h'' : List AObj} (h1 : Le m t h t' h') (h2 : Le m t' h' t'' h'') : Le m t h t'' h'' := fun C κ a w hk hs => by
 obtain ⟨κ', hs'⟩ := h1 C κ a w hk hs
 exact h2 C κ' a w hk hs'
theorem AW.le {P : Program} {m : Nat} {c : Code} {Q : QT} {t t' : List AV} {h h' : List AObj} (hl : Le m t h t' h') (hc : AW P m c Q t' h') : AW P m c Q t h := fun C κ a w hk hs => by
 obtain ⟨κ', hs'⟩ := hl C κ a w hk hs
 exact hc C κ' a w hk hs'
inductive VWs (h : List AObj) (L : List (Option Nat)) : List AV → List AV → Prop where
 | nil : VWs h L [] []
 | cons {x y : AV} {xs ys : List AV} : VW h L x y → VWs h L xs ys → VWs h L (x :: xs) (y :: ys)
theorem VWs.len {h : List AObj} {L : List (Option Nat)} {xs ys : List AV} (hv : VWs h L xs ys) : xs.length = ys.length := by
 induction hv with
 | nil => rfl
 | cons _ _ ih => simp [ih]
theorem VWs.get {h : List AObj} {L : List (Option Nat)} {xs ys : List AV} (hv : VWs h L xs ys) : ∀ j, VW h L (xs.getD j .unk) (ys.getD j .unk) := by
 induction hv with
 | nil => intro j; exact .unk _
 | cons h1 _ ih => intro j; cases j with
  | zero => exact h1
  | succ j => exact ih j
theorem VW.agg' {h : List AObj} {L : List (Option Nat)} {xs ys : List AV} (hv : VWs h L xs ys) : VW h L (.agg xs) (.agg ys) := .agg hv.len hv.get
theorem VW.func' {h : List AObj} {L : List (Option Nat)} {f : Nat} {xs ys : List AV} (hv : VWs h L xs ys) : VW h L (.func f xs) (.func f ys) := .func hv.len hv.get
theorem VW.dz {h : List AObj} {L : List (Option Nat)} {es : List (List AV)} {j l z : Nat} (hr : bq (mU L h.length) es = es) (hj : mU L h.length j = l) : VW h L (.slice es (.tip j z)) (.slice es (.tip l z)) := .same (by simp only [ren, dx, hr, hj])
theorem OW.ajL {h : List AObj} {L : List (Option Nat)} {xs ys : List AV} (hv : VWs h L xs ys) : OW h L (.box xs) (.box ys) := .box hv.len hv.get
inductive OWs (h : List AObj) (L : List (Option Nat)) : List (Option Nat) → List AObj → Prop where
 | nil : OWs h L [] []
 | old {l : Nat} {o : AObj} {ls : List (Option Nat)} {os : List AObj} : OW h L o (obj? h l) → OWs h L ls os → OWs h L (some l :: ls) (o :: os)
 | new {o : AObj} {ls : List (Option Nat)} {os : List AObj} : bT o = false → OWs h L ls os → OWs h L (none :: ls) (o :: os)
theorem OWs.len {h : List AObj} {L ls : List (Option Nat)} {os : List AObj} (hv : OWs h L ls os) : ls.length = os.length := by
 induction hv with
 | nil => rfl
 | old _ _ ih => simp [ih]
 | new _ _ ih => simp [ih]
theorem OWs.get {h : List AObj} {L ls : List (Option Nat)} {os : List AObj} (hv : OWs h L ls os) : ∀ i l, ls[i]? = some (some l) → OW h L (obj? os i) (obj? h l) := by
 induction hv with
 | nil => intro i l hi; simp at hi
 | old h1 _ ih => intro i l hi; cases i with
  | zero => simp at hi; subst hi; exact h1
  | succ i => exact ih i l (by simpa using hi)
 | new _ _ ih => intro i l hi; cases i with
  | zero => simp at hi
  | succ i => exact ih i l (by simpa using hi)
theorem OWs.ajk {h : List AObj} {L ls : List (Option Nat)} {os : List AObj} (hv : OWs h L ls os) : ∀ i, ls[i]? = some none → bT (obj? os i) = false := by
 induction hv with
 | nil => intro i hi; simp at hi
 | old h1 _ ih => intro i hi; cases i with
  | zero => simp at hi
  | succ i => exact ih i (by simpa using hi)
 | new h1 _ ih => intro i hi; cases i with
  | zero => exact h1
  | succ i => exact ih i (by simpa using hi)
def Uy : AObj → Bool
 | .dead => false
 | .res => false
 | _ => true
theorem UL {o : AObj} (h : live o) : Uy o = true := by cases o <;> simp [live, Uy] at *
def nR : List (Option Nat) → List AObj → List Nat
 | some l :: L, o :: os => match Uy o with
  | true => l :: nR L os
  | false => nR L os
 | none :: L, _ :: os => nR L os
 | _, _ => []
def okL (m n : Nat) (L : List (Option Nat)) (h' : List AObj) : Bool :=
 (List.range m).all (fun i => L[i]? == some (some i)) && (L.all fun o => match o with | some l => decide (l < n) | none => true) && decide ((nR L h').Nodup)
theorem abn : ∀ (L : List (Option Nat)) (hs : List AObj) (k l : Nat), L[k]? = some (some l) → live (obj? hs k) → l ∈ nR L hs := by
 intro L
 induction L with
 | nil => intro hs k l hk; simp at hk
 | cons o L ih =>
  intro hs k l hk hl
  cases hs with
  | nil => simp [obj?, live] at hl
  | cons a as =>
   cases k with
   | zero =>
    simp at hk; subst hk
    have : Uy a = true := UL hl
    simp [nR, this]
   | succ k =>
    have hm := ih as k l (by simpa using hk) hl
    cases o with
    | none => simpa [nR] using hm
    | some x =>
     simp only [nR]
     split
     ·exact List.mem_cons_of_mem _ hm
     ·exact hm
theorem ab2 : ∀ (L : List (Option Nat)) (hs : List AObj), (nR L hs).Nodup → ∀ i j l, L[i]? = some (some l) → L[j]? = some (some l) → live (obj? hs i) → live (obj? hs j) → i = j := by
 intro L
 induction L with
 | nil => intro hs _ i j l hi; simp at hi
 | cons o L ih =>
  intro hs hn i j l hi hj li lj
  cases hs with
  | nil => simp [obj?, live] at li
  | cons a as =>
   have hn' : (nR L as).Nodup := by
    cases o with
    | none => simpa [nR] using hn
    | some x =>
     simp only [nR] at hn
     split at hn
     ·exact (List.nodup_cons.1 hn).2
     ·exact hn
   have key : ∀ k, o = some l → live a → L[k]? = some (some l) → live (obj? as k) → False := fun k ho ha hk lk => by
    subst ho
    simp only [nR, UL ha] at hn
    exact (List.nodup_cons.1 hn).1 (abn L as k l hk lk)
   cases i with
   | zero => cases j with
    | zero => rfl
    | succ j => exact (key j (by simpa using hi) li (by simpa using hj) lj).elim
   | succ i => cases j with
    | zero => exact (key i (by simpa using hj) lj (by simpa using hi) li).elim
    | succ j => exact congrArg _ (ih as hn' i j l (by simpa using hi) (by simpa using hj) li lj)
theorem Weak.mk' {m : Nat} {t t' : List AV} {h h' : List AObj} {L : List (Option Nat)} (hL : okL m h.length L h' = true) (ht : VWs h L t' t) (ho : OWs h L L h') : Weak m t h L t' h' := by
 simp only [okL, Bool.and_eq_true, List.all_eq_true, decide_eq_true_eq] at hL
 obtain ⟨⟨h1, h2⟩, h3⟩ := hL
 refine ⟨ht.len, ho.len, fun i hi => by simpa using h1 i (by simpa using hi), ab2 L h' h3, fun i l hl => ?_, ht.get, ho.get, ho.ajk⟩
 have := h2 _ (List.mem_of_getElem? hl)
 simpa using this
end Abs
end Go.Proofs.YtkopaeklihhdlaaGreat
namespace Go.Proofs.YtkopaeklihhdlaaGreat
namespace Abs
open Go
def ZB (v : Int) (K : Int → Prop) : Prop := ∃ n, n = v ∧ K n
def QG (v : List (List AV)) (K : List (List AV) → Prop) : Prop := ∃ es, es = v ∧ K es
theorem ZB.out {v : Int} {K : Int → Prop} (h : ZB v K) : K v := by obtain ⟨n, rfl, h⟩ := h; exact h
theorem QG.out {v : List (List AV)} {K : List (List AV) → Prop} (h : QG v K) : K v := by obtain ⟨n, rfl, h⟩ := h; exact h
def aiB (s : List UInt8) (n : Int) (K : AV → Prop) : Prop := ∃ x : Int, (0 ≤ n ∧ n < s.length) ∧ x = (s.getD n.toNat 0).toNat ∧ K (.int .u8 x)
def ajO (a b : List UInt8) (K : AV → Prop) : Prop := ∃ r, a.length + b.length ≤ 9223372036854775807 ∧ r = a ++ b ∧ K (.str r)
def aiT (s : List UInt8) (lo hi : Option AV) (K : AV → Prop) : Prop := ∃ r, (∃ l h, dI hi s.length s.length = some h ∧ dI lo 0 h = some l ∧ r = (s.drop l).take (h - l)) ∧ K (.str r)
def aiz (es : List (List AV)) (sz : Nat) (lo hi : Option AV) (K : AV → Prop) : Prop := ∃ r, (∃ l h, dI hi es.length es.length = some h ∧ dI lo 0 h = some l ∧ (l < es.length → (es.getD l []).length = sz) ∧ r = (es.drop l).take (h - l)) ∧ K (.slice r .shared)
def ahq (ns : List (List AV)) (neg : Bool) (K : AV → Prop) : Prop := ∃ b : Bool, b = ns.isEmpty ∧ K (.bool (neg != b))
def aix (ns : List (List AV)) (K : AV → Prop) : Prop := ∃ cs r cells, ns = cs :: r ∧ cells = cs ++ [.flist r] ∧ K (.eptr cells)
def adi (τ : Nat → TI) (op : BinOp) (t : TypeId) (x y : AV) (K : AV → Prop) : Prop :=
 match op, x, y with
 | .add, .str a, .str b => ajO a b K
 | .eql, .flist ns, .nilp => eY (τ t).isPtr (ahq ns false K) False
 | .neq, .flist ns, .nilp => eY (τ t).isPtr (ahq ns true K) False
 | .add, .int k a, .int k' b => eY (decide (k = k')) (ZB (k.wrap (a + b)) fun n => K (.int k n)) False
 | .sub, .int k a, .int k' b => eY (decide (k = k')) (ZB (k.wrap (a - b)) fun n => K (.int k n)) False
 | .mul, .int k a, .int k' b => eY (decide (k = k')) (ZB (k.wrap (a * b)) fun n => K (.int k n)) False
 | op, x, y => eG (Ig τ op t x y) K
def acX (K : AV → Prop) (isStr : Bool) (slT : Option Nat) : AV → Prop
 | .str s => eY isStr (K (.int .i64 s.length)) False
 | .slice es _ => eG slT fun _ => ZB es.length fun n => K (.int .i64 n)
 | .psl _ _ n => eG slT fun _ => K (.int .i64 n)
 | _ => False
def ab6 (σ : Nat → AObj) (k sz bytes : Nat) (d : Option Tmp) (K : List Nat → List Wr → Prop) (es ys : List (List AV)) : Tag → Prop
 | .nils => match es with
  | [] => eY (bT (σ k)) (adv ys sz bytes (QG ys fun es => ∃ n, n = ys.length * sz ∧ K [k] (.obj k (.tip n) :: aM d (.slice es (.tip k sz))))) False
  | _ => False
 | .tip l z => match σ l with
  | .tip n => eY (bT (σ k) && z == sz) (adU n es ys sz bytes (QG (es ++ ys) fun r => ∃ n, n = (es ++ ys).length * sz ∧ K [l, k] (.obj l .dead :: .obj k (.tip n) :: aM d (.slice r (.tip k sz))))) False
  | _ => False
 | .shared => False
def aj8 (n : Nat) (es ys : List (List AV)) (sz bytes : Nat) (K : List (List AV) → Nat → Prop) : Prop :=
 (n ≤ es.length ∧ (n + ys.length) * bytes ≤ 140737488355328 ∧ n + ys.length ≤ 140737488355328 ∧ (es.all (bR sz) = true) ∧ (ys.all (bR sz) = true)) ∧ ∃ r m, r = es.take n ++ ys ∧ m = r.length ∧ K r m
def abp (σ : Nat → AObj) (l k z n sz bytes : Nat) (d : Option Tmp) (K : List Nat → List Wr → Prop) (ys : List (List AV)) : AObj → Prop
 | .arr z' es => eY (bT (σ k) && (z == sz && z' == sz)) (aj8 n es ys sz bytes fun r m => K [l, k] (.obj l .dead :: .obj k (.arr sz r) :: aM d (.psl k sz m))) False
 | _ => False
def adx (σ : Nat → AObj) (k sz bytes : Nat) (d : Option Tmp) (K : List Nat → List Wr → Prop) : AV → AV → Prop
 | .slice es tg, .slice ys _ => ab6 σ k sz bytes d K es ys tg
 | .psl l z n, .slice ys _ => abp σ l k z n sz bytes d K ys (σ l)
 | _, _ => False
def acU (isStr : Bool) (slT : Option Nat) (lo hi : Option AV) (K : AV → Prop) : AV → Prop
 | .str s => eY isStr (aiT s lo hi K) False
 | .slice es _ => eG slT fun sz => aiz es sz lo hi K
 | .psl l z n => eG slT fun _ => match lo with
  | none => ∃ m, dI hi n n = some m ∧ K (.psl l z m)
  | some _ => False
 | _ => False
def Ox : Nat → List (Nat × Operand) → Bool
 | _, [] => true
 | i, p :: ps => Nat.beq p.1 i && Ox (i + 1) ps
def acZ (ρ : Operand → AV) (sz : Nat) : List (Nat × Operand) → (List (List AV) → Prop) → Prop
 | [], K => K []
 | p :: ps, K => eG (iR (ρ p.2)) fun cs => eY (Nat.beq cs.length sz) (fL (cs.map shr) fun cs => acZ ρ sz ps fun es => K (cs :: es)) False
theorem ad5 {ρ : Operand → AV} {sz : Nat} : ∀ (ps : List (Nat × Operand)) (K : List (List AV) → Prop), acZ ρ sz ps K → ∃ css : List (List AV), css.length = ps.length ∧ (∀ c ∈ css, c.length = sz) ∧ (∀ j : Nat, j < ps.length → ∃ p, ps[j]? = some p ∧ iR (ρ p.2) = css[j]?) ∧ K (css.map fun c => c.map shr) := by
 intro ps
 induction ps with
 | nil => intro K h; exact ⟨[], rfl, by simp, fun j hj => by simp at hj, h⟩
 | cons p ps ih =>
  intro K h
  obtain ⟨cs, h1, h2⟩ := bK h
  rcases bC h2 with ⟨h3, h4⟩ | ⟨_, h4⟩
  ·rw [rG] at h4
   obtain ⟨css, g1, g2, g3, g4⟩ := ih _ h4
   refine ⟨cs :: css, by simp [g1], ?_, ?_, g4⟩
   ·intro c hc
    rcases List.mem_cons.1 hc with rfl | hc
    ·exact Nat.eq_of_beq_eq_true h3
    ·exact g2 c hc
   ·intro j hj
    cases j with
    | zero => exact ⟨p, rfl, h1⟩
    | succ j =>
     obtain ⟨q, q1, q2⟩ := g3 j (by simpa using hj)
     exact ⟨q, by simpa using q1, by simpa using q2⟩
  ·exact h4.elim
theorem Kg {sz : Nat} : ∀ {css : List (List AV)}, (∀ c ∈ css, c.length = sz) → css.flatten.length = css.length * sz
 | [], _ => by simp
 | c :: css, h => by
  simp only [List.flatten_cons, List.length_append, List.length_cons]
  rw [h c (by simp), Kg (fun c hc => h c (by simp [hc]))]
  rw [Nat.add_mul]; omega
theorem XJ {ρ : Operand → AV} {sz : Nat} : ∀ (ps : List (Nat × Operand)) (i : Nat) (css : List (List AV)) (cells : List AV), Ox i ps = true → css.length = ps.length → (∀ c ∈ css, c.length = sz) → (∀ j : Nat, j < ps.length → ∃ p, ps[j]? = some p ∧ iR (ρ p.2) = css[j]?) → (i + ps.length) * sz ≤ cells.length →
  iZ (fun i => some (i * sz, sz)) cells (ps.map fun p => (p.1, ρ p.2)) = some (cells.take (i * sz) ++ css.flatten ++ cells.drop ((i + ps.length) * sz)) := by
 intro ps
 induction ps with
 | nil => intro i css cells _ hl _ _ _; have : css = [] := List.length_eq_zero_iff.1 hl; subst this; simp [iZ]
 | cons p ps ih =>
  intro i css cells hc hl hz hp hle
  simp only [Ox, Bool.and_eq_true] at hc
  obtain ⟨hc1, hc2⟩ := hc
  have hi : p.1 = i := Nat.eq_of_beq_eq_true hc1
  cases css with
  | nil => simp at hl
  | cons c css =>
   obtain ⟨q, q1, q2⟩ := hp 0 (by simp)
   simp only [List.getElem?_cons_zero, Option.some.injEq] at q1 q2
   subst q1
   have hcl : c.length = sz := hz c (by simp)
   simp only [List.length_cons] at hle hl
   have e1 : (i + (ps.length + 1)) * sz = i * sz + (ps.length * sz + sz) := by rw [Nat.add_mul, Nat.add_mul, Nat.one_mul]
   rw [e1] at hle
   simp only [List.map_cons, iZ, hi, q2]
   rw [if_pos ⟨hcl, by omega⟩]
   rw [ih (i + 1) css _ hc2 (by omega) (fun c hc => hz c (by simp [hc])) (fun j hj => by
    obtain ⟨q, q1, q2⟩ := hp (j + 1) (by simpa using hj)
    exact ⟨q, by simpa using q1, by simpa using q2⟩) (by
     simp only [List.length_append, List.length_take, List.length_drop, hcl]
     rw [show (i + 1 + ps.length) * sz = i * sz + sz + ps.length * sz by rw [Nat.add_mul, Nat.add_mul, Nat.one_mul]]
     omega)]
   congr 1
   have t1 : (cells.take (i * sz) ++ c ++ cells.drop (i * sz + sz)).take ((i + 1) * sz) = cells.take (i * sz) ++ c := by
    rw [List.take_append_of_le_length (by simp [hcl]; rw [Nat.add_mul]; omega)]
    apply List.take_of_length_le
    simp [hcl]; rw [Nat.add_mul]; omega
   have t2 : (cells.take (i * sz) ++ c ++ cells.drop (i * sz + sz)).drop ((i + 1 + ps.length) * sz) = cells.drop ((i + (ps.length + 1)) * sz) := by
    have hl2 : (cells.take (i * sz) ++ c).length = i * sz + sz := by simp [hcl]; omega
    rw [show (i + 1 + ps.length) * sz = (cells.take (i * sz) ++ c).length + ps.length * sz by rw [hl2, Nat.add_mul, Nat.add_mul, Nat.one_mul]]
    rw [← List.drop_drop, List.drop_left, List.drop_drop, e1]
    congr 1
    omega
   rw [t1]
   simp only [List.length_cons]
   rw [t2]
   simp [List.append_assoc]
theorem chunks_flatten {sz : Nat} : ∀ {css : List (List AV)}, (∀ c ∈ css, c.length = sz) → chunks sz css.length css.flatten = css
 | [], _ => rfl
 | c :: css, h => by
  have hc : c.length = sz := h c (by simp)
  simp only [List.length_cons, chunks, List.flatten_cons]
  rw [List.take_left' hc, List.drop_left' hc, chunks_flatten (fun c hc => h c (by simp [hc]))]
def adY (ρ : Operand → AV) : List (Nat × Operand) → List AV → (List AV → Prop) → Prop
 | [], cells, K => K cells
 | p :: ps, cells, K => eG (iR (ρ p.2)) fun cs => match cs with
  | [c] => eY (Nat.blt p.1 cells.length) (Db cells p.1 c fun cells => adY ρ ps cells K) False
  | _ => False
theorem Gd {α : Type} : ∀ (l : List α) (i : Nat) (v : α), i < l.length → l.take i ++ [v] ++ l.drop (i + 1) = l.set i v
 | [], _, _, h => by simp at h
 | x :: l, 0, v, _ => by simp
 | x :: l, i + 1, v, h => by
  have := Gd l i v (by simpa using h)
  simp only [List.take_succ_cons, List.drop_succ_cons, List.set_cons_succ, List.cons_append]
  rw [← this]
theorem adM {ρ : Operand → AV} : ∀ (ps : List (Nat × Operand)) (cells : List AV) (K : List AV → Prop), adY ρ ps cells K → ∃ cs, iZ (fun i => some (i * 1, 1)) cells (ps.map fun p => (p.1, ρ p.2)) = some cs ∧ K cs := by
 intro ps
 induction ps with
 | nil => intro cells K h; exact ⟨cells, rfl, h⟩
 | cons p ps ih =>
  intro cells K h
  obtain ⟨cs, h1, h2⟩ := bK h
  split at h2
  ·rename_i c
   rcases bC h2 with ⟨h3, h4⟩ | ⟨_, h4⟩
   ·rw [zh] at h4
    obtain ⟨r, g1, g2⟩ := ih _ _ h4
    refine ⟨r, ?_, g2⟩
    have hlt : p.1 < cells.length := by simpa [Nat.blt, Nat.succ_le_iff] using h3
    simp only [List.map_cons, iZ, h1, Nat.mul_one]
    rw [if_pos ⟨rfl, by omega⟩, Gd _ _ _ hlt]
    simpa only [Nat.mul_one] using g1
   ·exact h4.elim
  ·exact h2.elim
def ajh (es : List (List UInt8 × AV)) (k : List UInt8) (v : AV) (K : List (List UInt8 × AV) → Prop) : Prop := ∃ r, es.length < 140737488355328 ∧ r = xO es k v ∧ K r
def agN (es : List (List AV)) (K : AV → Prop) : Prop := ∃ bs, qQ es = some bs ∧ K (.str bs)
def acr (ρ : Operand → AV) (ps : List (Nat × Operand)) (z : Option (List AV)) (K : AV → Prop) : IxT → Prop
 | .arr _ (some sz) => eY (Nat.beq sz 1) (eG z fun z => adY ρ ps z fun cs => K (.agg cs)) False
 | _ => False
def ac8 (K : AV → Prop) : IxT → AV → AV → Prop
 | .arr len (some sz), .ptr l o, .int _ n => ∃ m : Nat, (0 ≤ n ∧ n < len) ∧ m = o + n.toNat * sz ∧ K (.ptr l m)
 | .sl (some sz), .psl l z len, .int _ n => ∃ m : Nat, (0 ≤ n ∧ n < len ∧ z = sz) ∧ m = n.toNat * sz ∧ K (.ptr l m)
 | ix, x, i => Vq K ix x i
theorem adj {K : AV → Prop} {ix : IxT} {x i : AV} (h : ac8 K ix x i) : Vq K ix x i ∨ ∃ sz l z len k n, ix = .sl (some sz) ∧ x = .psl l z len ∧ i = .int k n ∧ (0 ≤ n ∧ n < (len : Int) ∧ z = sz) ∧ K (.ptr l (n.toNat * sz)) := by
 unfold ac8 at h
 split at h
 ·obtain ⟨m, h1, rfl, h2⟩ := h
  exact .inl ⟨h1, h2⟩
 ·obtain ⟨m, h1, rfl, h2⟩ := h
  exact .inr ⟨_, _, _, _, _, _, rfl, rfl, rfl, h1, h2⟩
 ·exact .inl h
def aiF (τ : Nat → TI) (t : TypeId) (z off : Nat) (es : List (List AV)) (K : AV → Prop) : Prop := ∃ i cs, off = i * z ∧ 0 < z ∧ es[i]? = some cs ∧ eG (loadT τ t cs) K
def agx (z off : Nat) (es : List (List AV)) (vs : List AV) (K : List (List AV) → Prop) : Prop := ∃ i r, off = i * z ∧ 0 < z ∧ i < es.length ∧ r = es.set i vs ∧ K r
def ahg (z off : Nat) (es : List (List AV)) (vs : List AV) (K : List (List AV) → Prop) : Prop := ∃ i j cs r, off = i * z + j ∧ j < z ∧ j + vs.length ≤ z ∧ es[i]? = some cs ∧ r = es.set i (cs.take j ++ vs ++ cs.drop (j + vs.length)) ∧ K r
def Fy (τ : Nat → TI) (k : Nat) (d : Option Tmp) (ρ : Operand → AV) (σ : Nat → AObj) (K : List Nat → List Wr → Prop) : Op → Prop
 | .binOp op t x y _ => adi τ op t (ρ x) (ρ y) fun v => K [] (aM d v)
 | .nilCheck x => match ρ x with
  | .flist ns => aix ns fun v => K [] (aM d v)
  | v => eG (adu v) fun v => K [] (aM d v)
 | .indexAddr t x i => ac8 (fun v => K [] (aM d v)) (τ t).ix (ρ x) (ρ i)
 | .index t x i => match ρ x, ρ i with
  | .str s, .int _ n => eY (τ t).isStr (aiB s n fun v => K [] (aM d v)) False
  | _, _ => False
 | .build t parts => eY (τ t).isStruct (eG (τ t).zero fun z => eG (iZ (lk (τ t).place) z (parts.toList.map fun p => (p.1, ρ p.2))) fun cs => K [] (aM d (.agg cs))) (acr ρ parts.toList (τ t).zero (fun v => K [] (aM d v)) (τ t).ix)
 | .convert s t x => match ρ x with
  | .int _ n => eY (τ s).int.isSome (eG (τ t).int fun k => K [] (aM d (.int k (k.wrap n)))) False
  | .slice es _ => eG (τ s).elem fun e => eY (decide ((τ e.1).int = some .u8) && (τ t).isStr) (agN es fun v => K [] (aM d v)) False
  | _ => False
 | .slice t x lo hi none => acU (τ t).isStr (τ t).slT (lo.map ρ) (hi.map ρ) (fun v => K [] (aM d v)) (ρ x)
 | .buildSlice t len parts => eG (τ t).elem fun e => eG (τ e.1).zero fun z => eY (bT (σ k) && (decide (len * e.2.1 ≤ 16777216) && (decide (len ≤ 16777216) && decide (z.length = e.2.1))))
   (eY (Ox 0 parts.toList && Nat.beq parts.toList.length len) (acZ ρ e.2.1 parts.toList fun es => QG es fun es => K [k] (.obj k (.tip (len * e.2.1)) :: aM d (.slice es (.tip k e.2.1))))
    (eG (iZ (fun i => some (i * e.2.1, e.2.1)) ((List.replicate len z).flatten) (parts.toList.map fun p => (p.1, ρ p.2))) fun cs => QG (chunks e.2.1 len (cs.map shr)) fun es => K [k] (.obj k (.tip (len * e.2.1)) :: aM d (.slice es (.tip k e.2.1))))) False
 | .call { callee := .builtin .len, args, argTypes } => match args.toList, argTypes.toList with
  | [x], [t] => acX (fun v => K [] (aM d v)) (τ t).isStr (τ t).slT (ρ x)
  | _, _ => False
 | .call { callee := .builtin .append, args, argTypes } => match args.toList, argTypes.toList with
  | [x, y], [t, t2] => eG (τ t).elem fun e => eY (τ t2).isSl (adx σ k e.2.1 e.2.2 d K (ρ x) (ρ y)) False
  | _, _ => False
 | .mapUpdate t m key x => eG (τ t).smap fun _ => match ρ m, ρ key with
  | .mapr l, .str s => match σ l with
   | .mp es => ajh es s (qj (ρ x)) fun r => K [l] (.obj l (.mp r) :: aM d (.tup []))
   | _ => False
  | _, _ => False
 | .load t x => match ρ x with
  | .eptr cs => eG (loadT τ t cs) fun v => K [] (aM d v)
  | .ptr l off => match σ l with
   | .box cs => eG (loadT τ t (cs.drop off)) fun v => K [l] (aM d v)
   | .arr z es => aiF τ t z off es fun v => K [l] (aM d v)
   | _ => False
  | _ => False
 | .store t x y => match ρ x with
  | .ptr l off => eG (iR (ρ y)) fun vs => match σ l with
   | .box cs => eY (decide ((τ t).size = some vs.length ∧ off + vs.length ≤ cs.length) && vs.all isScalar) (K [l] (.obj l (.box (cs.take off ++ vs ++ cs.drop (off + vs.length))) :: aM d (.tup []))) False
   | .arr z es => eY (decide ((τ t).size = some vs.length ∧ vs.length = z) && vs.all isScalar) (agx z off es vs fun r => K [l] (.obj l (.arr z r) :: aM d (.tup [])))
     (eY (decide ((τ t).size = some vs.length) && vs.all isScalar) (ahg z off es vs fun r => K [l] (.obj l (.arr z r) :: aM d (.tup []))) False)
   | _ => False
  | _ => False
 | op => stepT τ k d ρ σ K op
theorem ade {τ : Nat → TI} {op : BinOp} {t : TypeId} {x y : AV} {K : AV → Prop} (h : adi τ op t x y K) : C9 τ op t x y K := by
 unfold adi at h
 split at h
 ·obtain ⟨r, g1, rfl, g2⟩ := h
  exact ⟨g1, g2⟩
 ·rcases bC h with ⟨e, b, rfl, g⟩ | ⟨_, g⟩
  ·simp only [C9, Ig, e, if_true, Eh, eG]; simpa using g
  ·exact g.elim
 ·rcases bC h with ⟨e, b, rfl, g⟩ | ⟨_, g⟩
  ·simp only [C9, Ig, e, if_true, Eh, eG]; simpa using g
  ·exact g.elim
 ·rcases bC h with ⟨e, g⟩ | ⟨_, g⟩
  ·simp only [decide_eq_true_eq] at e; subst e; simp only [C9, Ig, if_true, eG]; exact g.out
  ·exact g.elim
 ·rcases bC h with ⟨e, g⟩ | ⟨_, g⟩
  ·simp only [decide_eq_true_eq] at e; subst e; simp only [C9, Ig, if_true, eG]; exact g.out
  ·exact g.elim
 ·rcases bC h with ⟨e, g⟩ | ⟨_, g⟩
  ·simp only [decide_eq_true_eq] at e; subst e; simp only [C9, Ig, if_true, eG]; exact g.out
  ·exact g.elim
 ·rename_i hn1 _ _ hn2 hn3 hn4
  unfold C9
  split
  ·exact (hn1 _ _ rfl rfl rfl).elim
  ·exact h
theorem EG {b : Bool} {A A' B B' : Prop} (h : eY b A B) (h1 : A → A') (h2 : B → B') : eY b A' B' := by cases b; exact h2 h; exact h1 h
theorem Ba {α : Type} {r : Option α} {K K' : α → Prop} (h : eG r K) (hk : ∀ x, K x → K' x) : eG r K' := by cases r with | none => exact h | some x => exact hk x h
theorem adF {K : AV → Prop} {isStr : Bool} {slT : Option Nat} {v : AV} (h : acX K isStr slT v) : eG (ad6 isStr slT v) K := by
 unfold acX at h
 split at h
 ·rcases bC h with ⟨e, g⟩ | ⟨_, g⟩
  ·subst e; exact g
  ·exact g.elim
 ·obtain ⟨x, e, g⟩ := bK h
  subst e; exact g.out
 ·obtain ⟨x, e, g⟩ := bK h
  subst e; exact g
 ·exact h.elim
theorem ada {σ : Nat → AObj} {k sz bytes : Nat} {d : Option Tmp} {K : List Nat → List Wr → Prop} {x y : AV} (h : adx σ k sz bytes d K x y) : aaE σ k sz bytes d K x y ∨
  ∃ l n es ys tg, x = .psl l sz n ∧ y = .slice ys tg ∧ σ l = .arr sz es ∧ bT (σ k) = true ∧ n ≤ es.length ∧ (n + ys.length) * bytes ≤ 140737488355328 ∧ n + ys.length ≤ 140737488355328 ∧ es.all (bR sz) = true ∧ ys.all (bR sz) = true ∧
   K [l, k] (.obj l .dead :: .obj k (.arr sz (es.take n ++ ys)) :: aM d (.psl k sz (es.take n ++ ys).length)) := by
 unfold adx at h
 split at h
 ·refine .inl ?_
  unfold ab6 at h
  split at h
  ·split at h
   ·refine EG h (fun g => ?_) id
    obtain ⟨g1, g2⟩ := g
    obtain ⟨n, e, g⟩ := g2.out
    subst e
    exact ⟨g1, g⟩
   ·exact h.elim
  ·split at h
   ·rename_i hσ
    simp only [aaE, hσ]
    refine EG h (fun g => ?_) id
    obtain ⟨g1, g2⟩ := g
    obtain ⟨n, e, g⟩ := g2.out
    subst e
    exact ⟨g1, g⟩
   ·exact h.elim
  ·exact h.elim
 ·rename_i l z n ys tg
  refine .inr ?_
  unfold abp at h
  split at h
  ·rename_i z' es hl
   rcases bC h with ⟨e1, ⟨q1, q2, q3, q4, q5⟩, r, m, rfl, rfl, g⟩ | ⟨_, g⟩
   ·simp only [Bool.and_eq_true, beq_iff_eq] at e1
    obtain ⟨e1, rfl, rfl⟩ := e1
    exact ⟨l, n, es, ys, tg, rfl, rfl, hl, e1, q1, q2, q3, q4, q5, g⟩
   ·exact g.elim
  ·exact h.elim
 ·exact h.elim
theorem adG {isStr : Bool} {slT : Option Nat} {lo hi : Option AV} {K : AV → Prop} {v : AV} (h : acU isStr slT lo hi K v) : cutV isStr slT lo hi K v ∨ ∃ l z n m sz, v = .psl l z n ∧ lo = none ∧ slT = some sz ∧ dI hi n n = some m ∧ K (.psl l z m) := by
 unfold acU at h
 split at h
 ·refine .inl (EG h (fun g => ?_) id)
  obtain ⟨r, ⟨l, hh, g1, g2, rfl⟩, g4⟩ := g
  exact ⟨l, hh, g1, g2, g4⟩
 ·refine .inl (Ba h fun sz g => ?_)
  obtain ⟨r, ⟨l, hh, g1, g2, g3, rfl⟩, g4⟩ := g
  exact ⟨l, hh, g1, g2, g3, g4⟩
 ·rename_i l z n
  refine .inr ?_
  obtain ⟨sz, e, g⟩ := bK h
  split at g
  ·obtain ⟨m, g1, g2⟩ := g
   exact ⟨l, z, n, m, sz, rfl, rfl, e, g1, g2⟩
  ·exact g.elim
 ·exact h.elim
theorem afE {P : Program} {e : Nat} {k : IntKind} (h : (TI.of P e).int = some k) : P.underlying e = some (.int k) := by
 have : intTy P e = some k := h
 unfold intTy at this
 split at this
 ·rename_i k' hu; cases this; exact hu
 ·cases this
theorem aeY {P : Program} {t : Nat} (h : (TI.of P t).isStr = true) : P.underlying t = some .string := by
 have : aV.isStrT P t = true := h
 unfold aV.isStrT at this
 split at this
 ·assumption
 ·cases this
theorem ac0 {P : Program} {t : Nat} {e : TypeId × Nat × Nat} (h : (TI.of P t).elem = some e) : P.underlying t = some (.slice e.1) := by
 have : jV P t = some e := h
 unfold jV at this
 split at this
 ·rename_i e' hu
  cases hi : P.info? e' with
  | none => rw [hi] at this; cases this
  | some i =>
   rw [hi] at this
   simp only [Option.bind_some] at this
   split at this
   ·cases this; exact hu
   ·cases this
 ·cases this
theorem aad {P : Program} {s t : Nat} {x : Operand} {ρ : Operand → AV} {es : List (List AV)} {tg : Tag} {bs : List UInt8} {e : TypeId × Nat × Nat} (hx : ρ x = .slice es tg) (h1 : (TI.of P s).elem = some e) (h2 : (TI.of P e.1).int = some .u8) (h3 : (TI.of P t).isStr = true) (hb : qQ es = some bs) : aV P (.convert s t x) ρ = some (.str bs) := by
 have hs := ac0 h1
 have he := afE h2
 have ht := aeY h3
 have hc : aV.convT P s t = none := by unfold aV.convT; rw [hs, ht]
 have hbt : IQ P s t = true := by unfold IQ; rw [hs, ht]; simp only [he]
 simp only [aV, hx, hc, hbt, if_true, hb, Option.map_some]
theorem II {P : Program} {k : Nat} {o : Oper} {ρ : Operand → AV} {σ : Nat → AObj} {K : List Nat → List Wr → Prop} (h : Fy (TI.of P) k o.dst ρ σ K o.op) : (∃ rd ws, aZ P k o ρ σ = some (rd, ws) ∧ K rd ws) := by
 obtain ⟨dst, op, ty, pos, after, guard⟩ := o
 dsimp only at h
 suffices hh : stepT (TI.of P) k dst ρ σ K op ∨ (∃ v, aV P op ρ = some v ∧ K [] (aM dst v)) ∨ (∃ rd ws, aZ P k ⟨dst, op, ty, pos, after, guard⟩ ρ σ = some (rd, ws) ∧ K rd ws) by
  rcases hh with hh | ⟨v, h1, h2⟩ | hh
  ·exact KI (o := ⟨dst, op, ty, pos, after, guard⟩) hh
  ·exact eF (o := ⟨dst, op, ty, pos, after, guard⟩) h1 h2
  ·exact hh
 unfold Fy at h
 split at h
 ·refine .inl ?_
  exact ade h
 ·refine .inl ?_
  simp only [stepT]
  split at h
  ·rename_i ns hx
   obtain ⟨cs, r, cells, rfl, rfl, g⟩ := h
   rw [hx]
   exact g
  ·exact h
 ·rename_i t x i
  rcases adj h with g | ⟨sz, l, z, len, kk, n, g1, g2, g3, g4, g5⟩
  ·exact .inl g
  ·refine .inr (.inl ⟨.ptr l (n.toNat * sz), ?_, g5⟩)
   have hix : Lf P t = .sl (some sz) := g1
   unfold Lf at hix
   split at hix
   ·rename_i e hu
    simp only [IxT.sl.injEq] at hix
    simp only [aV, g3, hu, g2, hix]
    rw [if_pos g4]
   ·cases hix
   ·cases hix
 ·refine .inl ?_
  simp only [stepT]
  split at h
  ·rename_i h1 h2
   simp only [h1, h2]
   refine EG h (fun g => ?_) id
   obtain ⟨x, g1, rfl, g2⟩ := g
   exact ⟨g1, g2⟩
  ·exact h.elim
 ·rename_i t parts
  by_cases hst : (TI.of P t).isStruct = true
  ·refine .inl ?_
   simp only [stepT]
   rw [hst] at h ⊢
   exact h
  ·refine .inr (.inl ?_)
   have hst' : (TI.of P t).isStruct = false := by simpa using hst
   rw [hst'] at h
   simp only [eY] at h
   have hs2 : wO P t = false := hst'
   unfold acr at h
   split at h
   ·rename_i len sz hix
    rcases bC h with ⟨e1, g⟩ | ⟨_, g⟩
    ·have hsz : sz = 1 := Nat.eq_of_beq_eq_true e1
     subst hsz
     obtain ⟨z, hz, g2⟩ := bK g
     obtain ⟨cs, g3, g4⟩ := adM _ _ _ g2
     have hz' : jT P t = some z := hz
     have ha : Vk P t = some 1 := by
      have hix' : Lf P t = .arr len (some 1) := hix
      unfold Lf at hix'
      unfold Vk
      split at hix'
      ·cases hix'
      ·rename_i n e hu
       simp only [IxT.arr.injEq] at hix'
       rw [hu]; exact hix'.2
      ·cases hix'
     exact ⟨.agg cs, by simp only [aV, hs2, Bool.false_eq_true, if_false, ha, hz', g3, Option.map_some], g4⟩
    ·exact g.elim
   ·exact h.elim
 ·split at h
  ·rename_i n hx
   refine .inl ?_
   simp only [stepT, hx]
   exact h
  ·rename_i es tg hx
   refine .inr (.inl ?_)
   obtain ⟨e, h1, h2⟩ := bK h
   rcases bC h2 with ⟨h3, bs, h4, h5⟩ | ⟨_, g⟩
   ·simp only [Bool.and_eq_true, decide_eq_true_eq] at h3
    exact ⟨.str bs, aad hx h1 h3.1 h3.2 h4, h5⟩
   ·exact g.elim
  ·exact h.elim
 ·rename_i t x lo hi
  rcases adG h with g | ⟨l, z, n, m, sz, g1, g2, g3, g4, g5⟩
  ·exact .inl g
  ·refine .inr (.inl ⟨.psl l z m, ?_, g5⟩)
   have hsl : aV.sliceT P t = some sz := g3
   cases lo with
   | some y => cases g2
   | none => simp only [aV, g1, hsl, g4]
 ·refine .inl ?_
  rename_i t len parts
  refine Ba h fun e g => Ba g fun z g => ?_
  rcases bC g with ⟨hb, g⟩ | ⟨_, g⟩
  ·rw [hb]
   simp only [Bool.and_eq_true, decide_eq_true_eq] at hb
   obtain ⟨_, _, _, hz⟩ := hb
   rcases bC g with ⟨hc, g⟩ | ⟨_, g⟩
   ·simp only [Bool.and_eq_true] at hc
    obtain ⟨hc1, hc2⟩ := hc
    have hlen := Nat.eq_of_beq_eq_true hc2
    obtain ⟨css, g1, g2, g3, g4⟩ := ad5 _ _ g
    have hrl : ((List.replicate len z).flatten).length = len * e.2.1 := by
     rw [Kg (sz := e.2.1) (fun c hc => by rw [List.mem_replicate] at hc; rw [hc.2]; exact hz)]; simp
    have hf := XJ (ρ := ρ) (sz := e.2.1) parts.toList 0 css ((List.replicate len z).flatten) hc1 g1 g2 g3 (by rw [hrl, hlen]; simp)
    simp only [eY]
    rw [hf]
    have e1 : ((List.replicate len z).flatten).drop ((0 + parts.toList.length) * e.2.1) = [] := by
     apply List.drop_eq_nil_of_le; rw [hrl, hlen]; simp
    rw [e1]
    simp only [Nat.zero_mul, List.take_zero, List.nil_append, List.append_nil, eG]
    have e2 : chunks e.2.1 len (css.flatten.map shr) = css.map fun c => c.map shr := by
     rw [← hlen, ← g1, List.map_flatten]
     have := chunks_flatten (sz := e.2.1) (css := css.map (List.map shr)) (fun c hc => by
      obtain ⟨c', hc', rfl⟩ := List.mem_map.1 hc
      rw [List.length_map]; exact g2 c' hc')
     rw [List.length_map] at this
     exact this
    rw [e2]; exact g4.out
   ·exact Ba g fun cs g => g.out
  ·exact g.elim
 ·refine .inl ?_
  simp only [stepT]
  split at h
  ·rename_i h1 h2
   simp only [h1, h2]
   exact adF h
  ·exact h.elim
 ·rename_i args argTypes
  split at h
  ·rename_i x y t t2 h1 h2
   obtain ⟨e, he, h3⟩ := bK h
   rcases bC h3 with ⟨h4, h5⟩ | ⟨_, g⟩
   ·rcases ada h5 with g | ⟨l, n, es, ys, tg, g1, g2, g3, g4, g5, g6, g7, g8, g9, g10⟩
    ·refine .inl ?_
     simp only [stepT, h1, h2, he, eG, h4, eY]
     exact g
    ·refine .inr (.inr ⟨_, _, ?_, g10⟩)
     obtain ⟨e1, e2, e3⟩ := e
     have he' : jV P t = some (e1, e2, e3) := he
     have h4' : aZ.isSliceT P t2 = true := h4
     simp only [aZ, aV, h1, h2, he', h4', g1, g2, g3]
     rw [if_pos (by refine ⟨g4, ?_, ?_, g5, g6, g7, g8, g9⟩ <;> trivial)]
   ·exact g.elim
  ·exact h.elim
 ·refine .inl ?_
  simp only [stepT]
  refine Ba h fun e g => ?_
  split at g
  ·rename_i h1 h2
   simp only [h1, h2]
   split at g
   ·rename_i h3
    simp only [h3]
    obtain ⟨r, g1, rfl, g2⟩ := g
    exact ⟨g1, g2⟩
   ·exact g.elim
  ·exact g.elim
 ·rename_i t x
  split at h
  ·rename_i cs hx
   refine .inl ?_
   simp only [stepT, hx]
   exact h
  ·rename_i l off hx
   split at h
   ·rename_i cs hl
    refine .inl ?_
    simp only [stepT, hx, hl]
    exact h
   ·rename_i z es hl
    refine .inr (.inr ?_)
    obtain ⟨i, cs, rfl, hz, hi, g⟩ := h
    obtain ⟨v, g1, g2⟩ := bK g
    rw [Lj] at g1
    have hlt := (List.getElem?_eq_some_iff.1 hi).1
    refine ⟨[l], aM dst v, ?_, g2⟩
    rw [Zc]
    simp only [Ur, hx, hl]
    rw [Nat.mul_div_cancel _ hz, if_pos ⟨rfl, hlt⟩]
    have e : es.getD i [] = cs := by simp [List.getD, hi]
    rw [e, g1]
    rfl
   ·exact h.elim
  ·exact h.elim
 ·rename_i t x y
  split at h
  ·rename_i l off hx
   obtain ⟨vs, g1, g2⟩ := bK h
   split at g2
   ·rename_i cs hl
    refine .inl ?_
    simp only [stepT, hx, g1, hl, eG]
    exact g2
   ·rename_i z es hl
    refine .inr (.inr ?_)
    rcases bC g2 with ⟨g3, g4⟩ | ⟨hne, g⟩
    ·simp only [Bool.and_eq_true, decide_eq_true_eq] at g3
     obtain ⟨i, r, rfl, hz, hi, rfl, g5⟩ := g4
     have g3' : sizeT P t = some vs.length := g3.1.1
     refine ⟨_, _, ?_, g5⟩
     rw [LV]
     simp only [OH, hx, g1, hl]
     rw [Nat.mul_div_cancel _ hz, if_pos ⟨g3', g3.1.2, rfl, hi, g3.2⟩]
    ·rcases bC g with ⟨g3, g4⟩ | ⟨_, g⟩
     ·simp only [Bool.and_eq_true, decide_eq_true_eq] at g3
      obtain ⟨i, j, cs, r, rfl, hj, hjz, hc, rfl, g5⟩ := g4
      have g3' : sizeT P t = some vs.length := g3.1
      have hi : i < es.length := (List.getElem?_eq_some_iff.1 hc).1
      have hd : (i * z + j) / z = i := by rw [Nat.mul_comm, Nat.mul_add_div (by omega), Nat.div_eq_of_lt hj, Nat.add_zero]
      have hmd : (i * z + j) % z = j := by rw [Nat.mul_comm, Nat.mul_add_mod, Nat.mod_eq_of_lt hj]
      have hg : es.getD i [] = cs := by simp [List.getD, hc]
      refine ⟨_, _, ?_, g5⟩
      rw [LV]
      simp only [OH, hx, g1, hl]
      rw [hd, hmd, hg, if_neg, if_pos ⟨g3', by omega, hi, hjz, g3.2⟩]
      rintro ⟨q1, q2, _⟩
      have hne' : ((decide ((TI.of P t).size = some vs.length ∧ vs.length = z)) && vs.all isScalar) = true := by
       rw [g3.2, Bool.and_true]
       exact decide_eq_true ⟨q1, q2⟩
      rw [hne'] at hne
      cases hne
     ·exact g.elim
   ·exact g2.elim
  ·exact h.elim
 ·refine .inl ?_
  exact h
structure ACallU (P : Program) (f : Nat) (args : List AV) (dst : Option Tmp) (t : List AV) (h : List AObj) (k : Nat) (K : Nat → List Nat → List Wr → Prop) : Prop where
 out : zJ P f args dst t h k K
def Bt (P : Program) (τ : Nat → TI) (ops : List Oper) : List Oper → Nat → List Eff → List AV → List AObj → (List Eff → List AV → List AObj → Prop) → Prop
 | [], _, es, t, h, K => K es.reverse t h
 | o :: l, k, es, t, h, K => grd ops t
   (fun t => match jR o.op with
    | some (f, args) => GV (fun fid caps => KO t args.toList fun vs => fL (vs ++ caps) fun vs => ACallU P fid vs o.dst t h k fun k' ro ws => qZ ws t h fun t' h' => Bt P τ ops l k' (⟨bI ops.toArray o, ro, ws⟩ :: es) t' h' K) (cK t f)
    | none => Fy τ k o.dst (cK t) (obj? h) (fun rd ws => qZ ws t h fun t' h' => CU (iw o.op) (Bt P τ ops l k (⟨bI ops.toArray o, rd, ws⟩ :: es) t' h' K) (Bt P τ ops l (k + 1) (⟨bI ops.toArray o, rd, ws⟩ :: es) t' h' K)) o.op)
   (fun t => qZ (aM o.dst (.tup [])) t h fun t' h' => Bt P τ ops l k (⟨bI ops.toArray o, [], aM o.dst (.tup [])⟩ :: es) t' h' K) o.guard
theorem aaX {P : Program} {ops : List Oper} : ∀ (l : List Oper) (k : Nat) (es : List Eff) (t : List AV) (h : List AObj) (K : List Eff → List AV → List AObj → Prop), Bt P (TI.of P) ops l k es t h K → ∃ es' s', ATr P ops.toArray l es' ⟨t, h⟩ s' ∧ K (es.reverse ++ es') s'.tmps s'.heap := by
 intro l
 induction l with
 | nil => intro k es t h K hr; exact ⟨[], ⟨t, h⟩, .nil _, by simpa [Bt] using hr⟩
 | cons o l ih =>
  intro k es t h K hr
  have fin : ∀ (e : Eff) (k' : Nat), zV P ops.toArray o ⟨t, h⟩ e → (qZ e.ws t h fun t' h' => Bt P (TI.of P) ops l k' (e :: es) t' h' K) → ∃ es' s', ATr P ops.toArray (o :: l) es' ⟨t, h⟩ s' ∧ K (es.reverse ++ es') s'.tmps s'.heap := fun e k' he hw => by
   rw [Oe] at hw
   obtain ⟨es', s', g1, g2⟩ := ih k' (e :: es) _ _ K hw
   exact ⟨e :: es', s', .cons he g1, by simpa using g2⟩
  simp only [Bt] at hr
  rcases CF hr with ⟨hc, h1⟩ | ⟨hc, h2⟩
  ·cases hcall : jR o.op with
   | none =>
    rw [hcall] at h1
    obtain ⟨rd, ws, g1, g2⟩ := II h1
    have g2 : ∃ k', qZ ws t h fun t' h' => Bt P (TI.of P) ops l k' (⟨bI ops.toArray o, rd, ws⟩ :: es) t' h' K := by
     cases hn : iw o.op with
     | zero => simp only [hn, CU] at g2; exact ⟨_, g2⟩
     | succ m => simp only [hn, CU] at g2; exact ⟨_, g2⟩
    obtain ⟨k', g2⟩ := g2
    exact fin ⟨bI ops.toArray o, rd, ws⟩ k' (y9 (s := ⟨t, h⟩) hc g1) g2
   | some p =>
    obtain ⟨f, args⟩ := p
    rw [hcall] at h1
    simp only at h1
    unfold GV at h1
    split at h1
    ·rename_i fid caps g1
     simp only [JF, rG] at h1
     replace h1 := h1.out
     simp only [zJ] at h1
     obtain ⟨hok, ρ, ks, aargs, H, res, H', g2, g3, g4, g5, g6⟩ := h1
     obtain ⟨tt, ho⟩ := sJ hcall
     exact fin _ _ (yZ (s := ⟨t, h⟩) hc ho g1 hok g2 g3 g4 g5) g6
    ·exact h1.elim
  ·exact fin _ k (yL (s := ⟨t, h⟩) hc) h2
def rep (n : Nat) (h : List AObj) (K : List AObj → Prop) : Prop := fL (h ++ List.replicate n .res) K
theorem AW.region {P : Program} {τ : Nat → TI} {m id : Nat} {l : Array Oper} {dr : Bool} {Q : QT} {t : List AV} {h : List AObj} (hτ : τ = TI.of P) (hm : P.follows .mixedOrders = true) (r : Nat)
  (hr : rep r h fun h' => Jg h 0 fun k => Bt P τ l.toList l.toList k [] t h' fun es t h => eY dr (oL l.toList es = true ∧ Q .normal t h) (Q .normal t h)) : AW P m (.region id l dr) Q t h := by
 subst hτ
 unfold rep at hr
 simp only [rG, JG] at hr
 obtain ⟨es, s', h1, h2⟩ := aaX _ _ _ _ _ _ hr
 simp only [List.reverse_nil, List.nil_append] at h2
 have hl : l = l.toList.toArray := by simp
 rw [hl]
 rcases bC h2 with ⟨rfl, g1, g2⟩ | ⟨rfl, g⟩
 ·exact AW.of (bX.drawn (s := ⟨t, h⟩) r hm h1 g1 g2)
 ·exact AW.of (bX.region (s := ⟨t, h⟩) r h1.steps g)
end Abs
end Go.Proofs.YtkopaeklihhdlaaGreat
namespace Go.Proofs.YtkopaeklihhdlaaGreat
namespace Abs
open Go
def WB (P : Program) (rs : List ResultVar) (wk : Bool) (H : List AObj) (res : AV) (H' : List AObj) (t : List AV) (h : List AObj) : Prop :=
 (∃ L, wD P rs wk L H res H' ⟨t, h⟩) ∨ ∃ t' h', Le H.length t h t' h' ∧ ∃ L, wD P rs wk L H res H' ⟨t', h'⟩
def ahu (P : Program) (rs : List ResultVar) (wk : Bool) (H : List AObj) (res : AV) (H' : List AObj) : QT
 | .normal, t, h => WB P rs wk H res H' t h
 | .ret, t, h => WB P rs wk H res H' t h
 | _, _, _ => False
theorem ab4 {P : Program} {f : Nat} {fn : Func} {c : Code} {args : List AV} {H H' : List AObj} {res : AV} (wk : Bool) (hf : P.funcs[f]? = some fn) (hb : fn.body = some c) (hlen : args.length ≤ fn.ntmps)
  (h : AW P H.length c (ahu P fn.results.toList wk H res H') (args ++ List.replicate (fn.ntmps - args.length) (.tup [])) H) : aA P f args H res H' := by
 intro κ aO w vs hen hvl hr
 let C : Ctx := { aO := aO, old := fun b => b < w.heap.size ∧ ∀ l, at? κ l = some b → ¬ live (obj? H l), w0 := w, k0 := κ, pvE := aP aO κ H }
 refine calls_of_wp hf hb ?_
 have hsim : Sim C κ ⟨args ++ List.replicate (fn.ntmps - args.length) (.tup []), H⟩ { tmps := vs.toArray ++ Array.replicate (fn.ntmps - vs.toArray.size) undef, defers := [] } w := by
  refine ⟨rfl, by simp [hvl], ?_, hen.klen, cZ.refl _, hen.resv, hen.obj, hen.apart, fun l b h1 h2 ho => ho.2 l h1 h2, hen.bound, fun b o h => ⟨hen.pvlt b o h, fun l hl => hen.pvdis b o l h hl⟩, fun b hb => hb.1, fun _ _ => rfl, rfl, rfl, rfl, Nat.le_refl _, fun _ _ h _ => h, Evo.refl _ _⟩
  intro n hn
  simp only [List.length_append, List.length_replicate] at hn
  by_cases hlt : n < args.length
  ·have e1 : (args ++ List.replicate (fn.ntmps - args.length) (AV.tup [])).getD n .unk = args.getD n .unk := by simp [List.getD, List.getElem?_append_left hlt]
   have e2 : (vs.toArray ++ Array.replicate (fn.ntmps - vs.toArray.size) undef).getD n undef = vs.getD n undef := by
    rw [Array.getD_eq_getD_getElem?, Array.getElem?_append_left (by simp; omega)]; simp [List.getD]
   rw [e1, e2]; exact hr n hlt
  ·have e1 : (args ++ List.replicate (fn.ntmps - args.length) (AV.tup [])).getD n .unk = .tup [] := by
    rw [List.getD, List.getElem?_append_right (Nat.le_of_not_lt hlt), List.getElem?_replicate, if_pos (by omega)]; rfl
   have e2 : (vs.toArray ++ Array.replicate (fn.ntmps - vs.toArray.size) undef).getD n undef = undef := by
    rw [Array.getD_eq_getD_getElem?, Array.getElem?_append_right (by simp; omega), Array.getElem?_replicate]
    split <;> rfl
   rw [e1, e2]; exact oN
 have hfin : ∀ (L : List Nat) (s : ASt) (κf : bA) (a : Act) (w' : World), wD P fn.results.toList wk L H res H' s → Sim C κf s a w' → a.defers = [] ∧ ∃ v, (results fn a.tmps).run P w' = .ok v w' ∧ ∃ v' κ', Ending.returned v = .returned v' ∧ Leave κ κ' aO H H' w w' ∧ Rel w' κ' (aP aO κ' H') res v' := by
  intro L s κf a w' hq hs
  obtain ⟨xs, q1, q2, q3, q4, q5, q6, q7, q8⟩ := hq
  refine ⟨hs.defers, ?_⟩
  obtain ⟨us, u1, u2, u3⟩ := KH hs _ _ q1
  let κ' : bA := L.map (at? κf)
  let g := nm L s.heap.length
  have hat : ∀ i b, at? κ' i = some b → ∃ l, L[i]? = some l ∧ at? κf l = some b := fun i b hb => by
   simp only [κ'] at hb; rw [at?_map] at hb
   cases hi : L[i]? with
   | none => rw [hi] at hb; cases hb
   | some l => rw [hi] at hb; exact ⟨l, rfl, hb⟩
  have hdown : ∀ i, at? κ' i = at? κf (g i) := fun i => by
   simp only [κ', g, nm]; rw [at?_map]
   cases hi : L[i]? with
   | some l => rfl
   | none => simp only [Option.getD_none]; rw [at?_none_of_le (by rw [hs.klen]; exact Nat.le_refl _)]
  have hpv : ∀ b o, aP aO κ' H' b o → aP aO κf s.heap b o := by
   rintro b o (h | ⟨i, h1, h2⟩)
   ·exact .inl h
   ·obtain ⟨l, hl, hb⟩ := hat i b h1
    exact .inr ⟨l, hb, by rw [q8 i l hl, wN]; exact h2⟩
  have hrel : ∀ {x : AV} {u : Value}, Rel w' κf (aP aO κf s.heap) (ren g x) u → Rel w' κ' (aP aO κ' H') x u := fun hx =>
   (hx.uX hdown _ rfl).mono (Evo.refl _ _) (cZ.refl _) (fun b o h _ => hpv b o h)
  have hleave : Leave κ κ' aO H H' w w' := by
   refine ⟨by simp [κ', q4], by omega, ?_, ?_, ?_, ?_, ?_, ?_, ?_, hs.pY, fun b o h hlt => hs.pvsub b o (hpv b o h) hlt, hs.os, hs.tape, hs.output⟩
   ·intro i b hb
    have hi : i < H.length := by rw [← hen.klen]; exact lt_of_at? hb
    rw [hdown i]
    have : g i = i := by simp only [g, nm, q6 i hi]; rfl
    rw [this]; exact hs.kext i b hb
   ·intro i hi
    rw [hdown i]
    cases h0 : L[i]? with
    | none => simp only [g, nm, h0, Option.getD_none]; exact at?_none_of_le (by rw [hs.klen]; exact Nat.le_refl _)
    | some l =>
     simp only [g, nm, h0, Option.getD_some]
     exact hs.resv l (by rw [q8 i l h0, hi]; rfl)
   ·intro i b h1 h2
    obtain ⟨l, hl, hb⟩ := hat i b h1
    have := hs.obj l b hb (by rw [q8 i l hl, fM]; exact h2)
    rw [q8 i l hl] at this
    exact (this.uX hdown).mono rfl (Evo.refl _ _) (cZ.refl _) (fun b o h _ => hpv b o h)
   ·intro i b h1 h2
    obtain ⟨l, hl, hb⟩ := hat i b h1
    have hno := hs.own l b hb (by rw [q8 i l hl, fM]; exact h2)
    by_cases hlt : b < w.heap.size
    ·right
     apply Classical.byContradiction
     intro hne
     exact hno ⟨hlt, fun l0 h0 hlv => hne ⟨l0, h0, hlv⟩⟩
    ·left; omega
   ·intro i j b h1 h2 h3 h4
    obtain ⟨l, hl, hb⟩ := hat i b h1
    obtain ⟨l', hl', hb'⟩ := hat j b h2
    have e := hs.apart l l' b hb hb' (by rw [q8 i l hl, fM]; exact h3) (by rw [q8 j l' hl', fM]; exact h4)
    subst e
    exact (List.getElem?_inj (List.getElem?_eq_some_iff.1 hl).1 q3).1 (hl.trans hl'.symm)
   ·intro i b h1
    obtain ⟨l, _, hb⟩ := hat i b h1
    exact hs.bound l b hb
   ·intro b hb hnl
    exact hs.old b ⟨hb, hnl⟩
  have hresrel : ∀ (x : AV) (u : Value), Rel w' κf (aP aO κf s.heap) x u → Rel w' κf (aP aO κf s.heap) (if wk then qj x else x) u := fun x u hx => by
   cases wk
   ·exact hx
   ·exact hx.qj
  have hrun : ∃ v, (results fn a.tmps).run P w' = .ok v w' ∧ Rel w' κf (aP aO κf s.heap) (xA wk xs) v := by
   have hm : (fn.results.mapM (Ii a.tmps)).run P w' = .ok us.toArray w' := by
    rw [Array.mapM_eq_mapM_toList]
    simp only [Sem.run_map, u3, Result.andThen_ok]
   rw [M0]
   simp only [Sem.run_bind, hm, Result.andThen_ok, Sem.run_pure]
   by_cases h1 : us.length = 1
   ·match us, h1 with
    | [u], _ =>
     match xs, u1 with
     | [x], _ =>
      refine ⟨u, by simp, ?_⟩
      have := u2 0 (by simp)
      simp only [List.getD, List.getElem?_cons_zero, Option.getD_some] at this
      exact hresrel x u this
   ·refine ⟨.tuple us.toArray, by simp [h1], ?_⟩
    have hx : xA wk xs = .tup (if wk then xs.map qj else xs) := by
     match xs, u1 with
     | [], _ => rfl
     | [x], h => exact (h1 (by simpa using h)).elim
     | _ :: _ :: _, _ => rfl
    rw [hx]
    refine .tup (by split <;> simp [u1]) fun j hj => ?_
    have hj' : j < xs.length := by split at hj <;> simpa using hj
    have := hresrel _ _ (u2 j hj')
    cases wk
    ·exact this
    ·simp only [if_true] at this ⊢
     have e : (xs.map qj).getD j .unk = qj (xs.getD j .unk) := by simp [List.getD, List.getElem?_eq_getElem hj']
     rw [e]; exact this
  obtain ⟨v, hv1, hv2⟩ := hrun
  rw [q2] at hv2
  exact ⟨v, hv1, v, κ', rfl, hleave, hrel hv2⟩
 have hkl : C.k0.length ≤ H.length := Nat.le_of_eq hen.klen
 refine wp_mono (h C κ _ w hkl hsim) ?_
 rintro e a w' ⟨s, κf, hq, hs⟩
 have fin : WB P fn.results.toList wk H res H' s.tmps s.heap → a.defers = [] ∧ ∃ v, (results fn a.tmps).run P w' = .ok v w' ∧ ∃ v' κ', Ending.returned v = .returned v' ∧ Leave κ κ' aO H H' w w' ∧ Rel w' κ' (aP aO κ' H') res v' := by
  rintro (⟨L, hq⟩ | ⟨t', h', hwk, L, hq⟩)
  ·exact hfin L s κf a w' hq hs
  ·obtain ⟨κ2, hs2⟩ := hwk C κf a w' hkl hs
   exact hfin L _ κ2 a w' hq hs2
 cases e with
 | normal => exact fin hq
 | ret => exact fin hq
 | exit id => exact hq.elim
 | goto l => exact hq.elim
 | panic c => exact hq.elim
 | outgrown => exact hq.elim
end Abs
end Go.Proofs.YtkopaeklihhdlaaGreat

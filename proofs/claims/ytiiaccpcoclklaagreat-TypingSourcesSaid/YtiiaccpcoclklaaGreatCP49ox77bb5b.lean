/-
  The parser reads what is printed: the rules put together. Conditions: none; lemmas without a program.
-/
import Derived.Test.YtiiaccpcoclklaaGreatCP41ox50cdaf
set_option linter.unusedSimpArgs false
set_option linter.unusedVariables false
namespace Go.Proofs.YtiiaccpcoclklaaGreat
namespace Abs
open Go
def Nl (r : Tk) : Prop := zi r [40] = false ∧ zi r [91] = false ∧ zi r [126] = false
structure At (P sp s b : Str) (t r : Tk) (d : Int) : Prop where
 hsp : sp = [] ∨ sp = [32]
 nt : Nx (sp ++ (s ++ b)) t
 sep : Sep b
 nr : Nx b r
 su : ∃ a, P = a ++ (sp ++ (s ++ b))
 d0 : 0 ≤ d
 d1 : d + uR s ≤ 64
theorem At.len {P sp s b : Str} {t r : Tk} {d : Int} (h : At P sp s b t r d) (hP : P.length ≤ 1000000000) : (sp ++ (s ++ b)).length ≤ 1000000000 := by
 obtain ⟨a, ha⟩ := h.su
 rw [ha, List.length_append] at hP
 omega
theorem At.eq {P sp s b : Str} {t r u : Tk} {d : Int} (h : At P sp s b t r d) (hP : P.length ≤ 1000000000) (g : Nx (sp ++ (s ++ b)) u) : t = u := h.nt.uniq g (h.len hP)
theorem At.dd {P sp s b : Str} {t r : Tk} {d : Int} (h : At P sp s b t r d) : d ≤ 64 := by
 have := h.d1
 have := kC s
 omega
theorem At.s {P sp s b : Str} {t r : Tk} {d : Int} (h : At P sp s b t r d) : Su P t := by
 obtain ⟨a, ha⟩ := h.su
 exact h.nt.su ha
theorem At.z {P sp s b : Str} {t r : Tk} {d : Int} (h : At P sp s b t r d) : Su P r := by
 obtain ⟨a, ha⟩ := h.su
 exact h.nr.su (a := a ++ sp ++ s) (by rw [ha]; simp)
def Post (P : Str) (v : Tm) (s : Str) : Prop := ∀ {sp b : Str} {t r z : Tk} {d : Int} {x : Tm}, At P sp s b t r d → J8 P v r d x z → ahj P t d x z
def Lev (P : Str) (v : Tm) (s : Str) : Prop := ∀ {sp b : Str} {t r : Tk} {d : Int}, At P sp s b t r d → lvl r = 0 → Nl r → lq P t d 1 v r
def Sec (P : Str) (v : Tm) (s : Str) : Prop := ∀ w q, v = bM 16 [ji w, q] → ∃ sq, s = w ++ (([32] ++ nK 16) ++ ([32] ++ sq)) ∧ Post P q sq ∧ ShC q sq
structure Main (P : Str) (v : Tm) (s : Str) : Prop where
 post : Aj v.op = false → Post P v s
 lev : Lev P v s
 sec : Sec P v s
 sh : Sh v s
structure MainC (P : Str) (v : Tm) (s : Str) : Prop where
 post : Post P v s
 sh : ShC v s
theorem At.first {P sp s b : Str} {t r : Tk} {d : Int} {v : Tm} (h : At P sp s b t r d) (hP : P.length ≤ 1000000000) (hs : ShC v s) : NN t := by
 obtain ⟨_, _, h3⟩ := pI.2.1 v s hs
 obtain ⟨u, g1, _, g3, _⟩ := h3 sp b h.hsp h.sep
 rw [h.eq hP g1]
 exact g3
theorem MainC.level {P sp s b : Str} {t r : Tk} {d : Int} {v : Tm} (h : MainC P v s) (hP : P.length ≤ 1000000000) (hA : At P sp s b t r d) (l : Int) (h1 : 1 ≤ l) (h2 : l ≤ 14) (hr : lvl r < l) (hn : Nl r) : lq P t d l v r := by
 have hnn := hA.first hP h.sh
 exact ak1 (h.post hA (afS hn.1 hn.2.1 hn.2.2)) hnn.1 hnn.2 l h1 h2 hr
theorem rQ {P s : Str} {v : Tm} (hP : P.length ≤ 1000000000) (hc : Aj v.op = false) (h : Post P v s) (hs : Sh v s) : Main P v s := by
 refine ⟨fun _ => h, fun hA hr hn => ?_, fun w q e => ?_, hs⟩
 ·exact MainC.level ⟨h, .pla hc hs⟩ hP hA 1 (by omega) (by omega) (by omega) hn
 ·subst e; cases hc
theorem yM {P s : Str} {v : Tm} (h : ∀ {sp b : Str} {t r : Tk} {d : Int}, At P sp s b t r d → zl P t d v r) : Post P v s := fun hA hl => alc (h hA) hl
theorem ajv {P : Str} {t r : Tk} {d : Int} {v : Tm} (L : Int) (h : lq P t d L v r) (h1 : 1 ≤ L) (h2 : L ≤ 14) (hr : lvl r = 0) (hn : 5 < L → zi t [110, 111, 116] = false) (hm : 13 < L → zi t [45] = false) : lq P t d 1 v r := by
 have key : ∀ j : Nat, (j : Int) ≤ L - 1 → lq P t d (L - (j : Int)) v r := by
  intro j
  induction j with
  | zero => intro _; simpa using h
  | succ j ih =>
   intro hj
   have := ih (by omega)
   refine alk (l := L - ((j + 1 : Nat) : Int)) ?_ (by rw [hr]; omega) (by omega) (by omega) (fun e => hn (by omega)) (fun e => hm (by omega))
   rw [show (L - ((j + 1 : Nat) : Int)) + 1 = L - (j : Int) by omega]
   exact this
 have := key (L - 1).toNat (by omega)
 rw [show L - ((L - 1).toNat : Int) = 1 by omega] at this
 exact this
theorem auR {P : Str} (hP : P.length ≤ 1000000000) : Main P (bM 1 []) [116, 114, 117, 101] := by
 refine rQ hP rfl (yM fun {sp b t r d} hA => ?_) .tru
 have e := hA.eq hP (Am ⟨⟨_, _, rfl, by decide⟩, by decide, by decide⟩ (by decide) hA.hsp hA.sep)
 have := hA.s
 have hd := hA.dd
 subst e
 exact anF hP this hA.nr hA.d0 hd
theorem au5 {P : Str} (hP : P.length ≤ 1000000000) : Main P (bM 2 []) [102, 97, 108, 115, 101] := by
 refine rQ hP rfl (yM fun {sp b t r d} hA => ?_) .fls
 have e := hA.eq hP (Am ⟨⟨_, _, rfl, by decide⟩, by decide, by decide⟩ (by decide) hA.hsp hA.sep)
 have := hA.s
 have hd := hA.dd
 subst e
 exact amy hP this hA.nr hA.d0 hd
theorem m_num {P : Str} (hP : P.length ≤ 1000000000) {m : Nat} (h : m ≤ 1000000000) : Main P (Cx (m : Int)) (dec m) := by
 refine rQ hP rfl (yM fun {sp b t r d} hA => ?_) (.num h)
 have e := hA.eq hP (aog hA.hsp m h hA.sep)
 have hs := hA.s
 have hd := hA.dd
 obtain ⟨c, cs, e2, hc⟩ : ∃ c cs, dec m = c :: cs ∧ Cq c = true := by
  cases hm : dec m with
  | nil => exact absurd hm (Un m)
  | cons c cs => exact ⟨c, cs, rfl, (QI (Kc m c (by rw [hm]; simp))).1⟩
 have hu : up (dec m) d = d ∧ dn (dec m) d = d := by rw [e2]; exact aot hc d
 subst e
 exact apW hP h hs hA.nr hA.d0 hd hu.1 hu.2
theorem avc {P s : Str} (hP : P.length ≤ 1000000000) (h : named s = true) : Main P (ji s) s := by
 refine rQ hP rfl (yM fun {sp b t r d} hA => ?_) (.nam h)
 have hd := hA.dd
 have hs := hA.s
 rcases X9 h with hi | ⟨w, rfl, hi⟩
 ·have g := oV hA.hsp (iZ hi) hA.sep
  rw [za hi] at g
  have e := hA.eq hP g
  have hw := Kr (iZ hi) d
  subst e
  exact afP hP hs hA.nr hA.d0 hd hw.1 hw.2
 ·have e := hA.eq hP (ajC hA.hsp (iZ hi) (za hi))
  obtain ⟨c, cs, e2, hc⟩ : ∃ c cs, w ++ [39] = c :: cs ∧ Cq c = true := by
   cases w with
   | nil => cases hi
   | cons c cs => exact ⟨c, cs ++ [39], rfl, lV hi c (by simp)⟩
  have hw : up (w ++ [39]) d = d ∧ dn (w ++ [39]) d = d := by rw [e2]; exact aot hc d
  subst e
  exact afP hP hs hA.nr hA.d0 hd hw.1 hw.2
theorem au8 {P s : Str} {ty : Ty} (hP : P.length ≤ 1000000000) (h : ShY ty s) : Main P (.mk 29 [] 0 ty []) ([123, 125, 91] ++ (s ++ [93])) := by
 refine rQ hP rfl (yM fun {sp b t r d} hA => ?_) (.emp h)
 have ea : [123, 125, 91] ++ (s ++ [93]) ++ b = [123] ++ ([125] ++ ([91] ++ (s ++ ([93] ++ b)))) := by simp
 have hs := hA.s
 obtain ⟨a, ha⟩ := hA.su
 have hd := hA.d1
 have hm := kC s
 rw [dI, dI s] at hd
 have k1 : net [123, 125, 91] = 1 := rfl
 have k2 : uR [123, 125, 91] = 1 := rfl
 have g := hA.nt
 rw [ea] at g ha
 have e := g.uniq (kD hA.hsp 123 _ (by simp)) (by have := hA.len hP; rw [ea] at this; exact this)
 have hb : Sep ([93] ++ b) := iw rfl (by decide)
 obtain ⟨t3, n3⟩ := h.first (sp := []) (Or.inl rfl) hb
 have n4 := kD (sp := []) (Or.inl rfl) 93 b (by simp)
 have h3 := aup hP h (sp := []) (d := d + 1) (Or.inl rfl) n3 hb n4 ⟨a ++ sp ++ [123, 125, 91], by rw [ha]; simp⟩ (by have := hA.d0; omega) (by omega)
 have hz : Su P ⟨4, [93], b⟩ := n4.su (a := a ++ sp ++ [123, 125, 91] ++ s) (by rw [ha]; simp)
 subst e
 exact aq4 hP hs (kD (sp := []) (Or.inl rfl) 125 _ (by simp)) (kD (sp := []) (Or.inl rfl) 91 _ (by simp)) n3 h3 hz hA.nr hA.d0 (by omega)
theorem avd {P s : Str} {v : Tm} (hP : P.length ≤ 1000000000) (hc : Aj v.op = true) (h : Main P v s) : MainC P v ([40] ++ (s ++ [41])) := by
 refine ⟨yM fun {sp b t r d} hA => ?_, .par hc h.sh⟩
 have ea : [40] ++ (s ++ [41]) ++ b = [40] ++ (s ++ ([41] ++ b)) := by simp
 have hs := hA.s
 obtain ⟨a, ha⟩ := hA.su
 have hd := hA.d1
 have hm := kC s
 rw [dI, dI s] at hd
 have k1 : net [40] = 1 := rfl
 have k2 : uR [40] = 1 := rfl
 have g := hA.nt
 rw [ea] at g ha
 have e := g.uniq (kD hA.hsp 40 _ (by simp)) (by have := hA.len hP; rw [ea] at this; exact this)
 have hb : Sep ([41] ++ b) := iw rfl (by decide)
 obtain ⟨_, _, hF⟩ := pI.1 v s h.sh
 obtain ⟨t3, n3, _⟩ := hF [] ([41] ++ b) (Or.inl rfl) hb
 have n4 := kD (sp := []) (Or.inl rfl) 41 b (by simp)
 have hA2 : At P [] s ([41] ++ b) t3 ⟨4, [41], b⟩ (d + 1) := ⟨Or.inl rfl, n3, hb, n4, ⟨a ++ sp ++ [40], by rw [ha]; simp⟩, by have := hA.d0; omega, by omega⟩
 have h3 := h.lev hA2 rfl ⟨rfl, rfl, rfl⟩
 subst e
 exact apG hP hs n3 h3 hA2.z hA.nr hA.d0 (by omega)
theorem auP {P s : Str} {v : Tm} (hc : Aj v.op = false) (h : Main P v s) : MainC P v s := ⟨h.post hc, .pla hc h.sh⟩
theorem au6 {P s r : Str} {p q : Tm} (hP : P.length ≤ 1000000000) (h : MainC P p s) (k : Main P q r) : Main P (bM 54 [p, q]) (s ++ ([40] ++ (r ++ [41]))) := by
 refine rQ hP rfl (fun {sp b t z y d x} hA hl => ?_) (.app h.sh k.sh)
 have ea : s ++ ([40] ++ (r ++ [41])) ++ b = s ++ ([40] ++ (r ++ ([41] ++ b))) := by simp
 obtain ⟨a, ha⟩ := hA.su
 have hd := hA.d1
 have hm := kC s
 have hm2 := kC r
 have hn := (pI.2.1 p s h.sh).1
 rw [dI, dI [40], dI r] at hd
 have k1 : net [40] = 1 := rfl
 have k2 : uR [40] = 1 := rfl
 have g := hA.nt
 rw [ea] at g ha
 have hd0 := hA.d0
 have hb : Sep ([41] ++ b) := iw rfl (by decide)
 obtain ⟨_, _, hF⟩ := pI.1 q r k.sh
 obtain ⟨t3, n3, _⟩ := hF [] ([41] ++ b) (Or.inl rfl) hb
 have n4 := kD (sp := []) (Or.inl rfl) 41 b (by simp)
 have n2 := kD (sp := []) (Or.inl rfl) 40 (r ++ ([41] ++ b)) (by simp)
 have hA1 : At P sp s ([40] ++ (r ++ ([41] ++ b))) t ⟨4, [40], r ++ ([41] ++ b)⟩ d := ⟨hA.hsp, g, iw rfl (by decide), n2, ⟨a, ha⟩, hA.d0, by omega⟩
 have hA2 : At P [] r ([41] ++ b) t3 ⟨4, [41], b⟩ (d + 1) := ⟨Or.inl rfl, n3, hb, n4, ⟨a ++ sp ++ s ++ [40], by rw [ha]; simp⟩, by omega, by omega⟩
 have h3 := k.lev hA2 rfl ⟨rfl, rfl, rfl⟩
 exact h.post hA1 (aqb hP hA1.z n3 h3 hA2.z hA.nr hA.d0 (by omega) hl)
theorem auJ {P s r : Str} {p q : Tm} (hP : P.length ≤ 1000000000) (h : MainC P p s) (k : Main P q r) : Main P (bM 53 [p, q]) (s ++ ([91] ++ (r ++ [93]))) := by
 refine rQ hP rfl (fun {sp b t z y d x} hA hl => ?_) (.img h.sh k.sh)
 have ea : s ++ ([91] ++ (r ++ [93])) ++ b = s ++ ([91] ++ (r ++ ([93] ++ b))) := by simp
 obtain ⟨a, ha⟩ := hA.su
 have hd := hA.d1
 have hm := kC s
 have hm2 := kC r
 have hn := (pI.2.1 p s h.sh).1
 rw [dI, dI [91], dI r] at hd
 have k1 : net [91] = 1 := rfl
 have k2 : uR [91] = 1 := rfl
 have g := hA.nt
 rw [ea] at g ha
 have hd0 := hA.d0
 have hb : Sep ([93] ++ b) := iw rfl (by decide)
 obtain ⟨_, _, hF⟩ := pI.1 q r k.sh
 obtain ⟨t3, n3, _⟩ := hF [] ([93] ++ b) (Or.inl rfl) hb
 have n4 := kD (sp := []) (Or.inl rfl) 93 b (by simp)
 have n2 := kD (sp := []) (Or.inl rfl) 91 (r ++ ([93] ++ b)) (by simp)
 have hA1 : At P sp s ([91] ++ (r ++ ([93] ++ b))) t ⟨4, [91], r ++ ([93] ++ b)⟩ d := ⟨hA.hsp, g, iw rfl (by decide), n2, ⟨a, ha⟩, hA.d0, by omega⟩
 have hA2 : At P [] r ([93] ++ b) t3 ⟨4, [93], b⟩ (d + 1) := ⟨Or.inl rfl, n3, hb, n4, ⟨a ++ sp ++ s ++ [91], by rw [ha]; simp⟩, by omega, by omega⟩
 have h3 := k.lev hA2 rfl ⟨rfl, rfl, rfl⟩
 exact h.post hA1 (aq9 hP hA1.z n3 h3 hA2.z hA.nr hA.d0 (by omega) hl)
theorem auU {P s : Str} {p : Tm} (hP : P.length ≤ 1000000000) (h : MainC P p s) : Main P (bM 52 [p]) (s ++ [126]) := by
 refine rQ hP rfl (fun {sp b t z y d x} hA hl => ?_) (.inv h.sh)
 have ea : s ++ [126] ++ b = s ++ ([126] ++ b) := by simp
 obtain ⟨a, ha⟩ := hA.su
 have hd := hA.d1
 have hm := kC s
 rw [dI] at hd
 have g := hA.nt
 rw [ea] at g ha
 have n2 := kD (sp := []) (Or.inl rfl) 126 b (by simp)
 have hA1 : At P sp s ([126] ++ b) t ⟨4, [126], b⟩ d := ⟨hA.hsp, g, iw rfl (by decide), n2, ⟨a, ha⟩, hA.d0, by omega⟩
 exact h.post hA1 (aqt hP hA1.z hA.nr hA.d0 hA.dd hl)
theorem au0 {P s : Str} {op : Int} {p : Tm} (hP : P.length ≤ 1000000000) (h1 : 46 ≤ op) (h2 : op ≤ 51) (h : Main P p s) : Main P (bM op [p]) (DW op ++ ([40] ++ (s ++ [41]))) := by
 obtain ⟨w1, w2, w3, w4, w5, w6⟩ := alA h1 h2
 refine rQ hP w4 (yM fun {sp b t r d} hA => ?_) (.pre h1 h2 h.sh)
 have ea : DW op ++ ([40] ++ (s ++ [41])) ++ b = DW op ++ ([40] ++ (s ++ ([41] ++ b))) := by simp
 have hs := hA.s
 obtain ⟨a, ha⟩ := hA.su
 have hd := hA.d1
 have hm := kC s
 rw [dI, dI [40], dI s, w3] at hd
 have k1 : net [40] = 1 := rfl
 have k2 : uR [40] = 1 := rfl
 have g := hA.nt
 rw [ea] at g ha
 have e := g.uniq (Am w1 w2 hA.hsp (iw rfl (by decide))) (by have := hA.len hP; rw [ea] at this; exact this)
 have hb : Sep ([41] ++ b) := iw rfl (by decide)
 have hd0 := hA.d0
 obtain ⟨_, _, hF⟩ := pI.1 p s h.sh
 obtain ⟨t3, n3, _⟩ := hF [] ([41] ++ b) (Or.inl rfl) hb
 have n2 := kD (sp := []) (Or.inl rfl) 40 (s ++ ([41] ++ b)) (by simp)
 have n4 := kD (sp := []) (Or.inl rfl) 41 b (by simp)
 have hA2 : At P [] s ([41] ++ b) t3 ⟨4, [41], b⟩ (d + 1) := ⟨Or.inl rfl, n3, hb, n4, ⟨a ++ sp ++ DW op ++ [40], by rw [ha]; simp⟩, by omega, by omega⟩
 have h3 := h.lev hA2 rfl ⟨rfl, rfl, rfl⟩
 subst e
 exact akC hP h1 h2 hs n2 n3 h3 hA2.z hA.nr hA.d0 (by omega)
theorem as9 {P nm s r : Str} {p q : Tm} (hP : P.length ≤ 1000000000) (hi : ident nm = true) (h : MainC P p s) (k : Main P q r) : Main P (.mk 55 nm 0 bg [p, q]) ([123] ++ (nm ++ ([32, 105, 110] ++ ([32] ++ (s ++ ([32, 124] ++ ([32] ++ (r ++ [125])))))))) := by
 refine rQ hP rfl (yM fun {sp b t z d} hA => ?_) (.compr hi h.sh k.sh)
 have ea : [123] ++ (nm ++ ([32, 105, 110] ++ ([32] ++ (s ++ ([32, 124] ++ ([32] ++ (r ++ [125]))))))) ++ b = [123] ++ (nm ++ ([32] ++ ([105, 110] ++ ([32] ++ (s ++ ([32] ++ ([124] ++ (32 :: (r ++ ([125] ++ b)))))))))) := by simp
 have hs := hA.s
 obtain ⟨a, ha⟩ := hA.su
 have hd := hA.d1
 have hm := kC s
 have hm2 := kC r
 have hn := (pI.2.1 p s h.sh).1
 have hw := xq nm (lV hi)
 rw [dI, dI nm, dI [32, 105, 110], dI [32], dI s, dI [32, 124], dI [32], dI r, hw.1, hw.2, hn] at hd
 have k1 : net [123] = 1 := rfl
 have k2 : uR [123] = 1 := rfl
 have k3 : net [32, 105, 110] = 0 := rfl
 have k4 : net [32] = 0 := rfl
 have k5 : net [32, 124] = 0 := rfl
 have g := hA.nt
 rw [ea] at g ha
 have e := g.uniq (kD hA.hsp 123 _ (by simp)) (by have := hA.len hP; rw [ea] at this; exact this)
 have hd0 := hA.d0
 have hb : Sep ([125] ++ b) := iw rfl (by decide)
 have n1 := oV (sp := []) (b := [32] ++ ([105, 110] ++ ([32] ++ (s ++ ([32] ++ ([124] ++ (32 :: (r ++ ([125] ++ b))))))))) (Or.inl rfl) (iZ hi) (iw rfl (by decide))
 rw [za hi] at n1
 have n2 : Nx ([32] ++ ([105, 110] ++ ([32] ++ (s ++ ([32] ++ ([124] ++ (32 :: (r ++ ([125] ++ b))))))))) ⟨2, [105, 110], [32] ++ (s ++ ([32] ++ ([124] ++ (32 :: (r ++ ([125] ++ b))))))⟩ := Am ⟨⟨_, _, rfl, by decide⟩, by decide, by decide⟩ (by decide) (Or.inr rfl) (iw rfl (by decide))
 have hb4 : Sep ([32] ++ ([124] ++ (32 :: (r ++ ([125] ++ b))))) := iw rfl (by decide)
 obtain ⟨_, _, hFp⟩ := pI.2.1 p s h.sh
 obtain ⟨t3, n3, _⟩ := hFp [32] _ (Or.inr rfl) hb4
 have n4 : Nx ([32] ++ ([124] ++ (32 :: (r ++ ([125] ++ b))))) ⟨4, [124], 32 :: (r ++ ([125] ++ b))⟩ := Kk (Or.inr rfl) ⟨124, [], rfl, by decide, by decide⟩ (by rw [ahN _ _ (by simp)]; decide)
 obtain ⟨_, _, hF⟩ := pI.1 q r k.sh
 obtain ⟨t5, n5, _⟩ := hF [32] ([125] ++ b) (Or.inr rfl) hb
 have n6 := kD (sp := []) (Or.inl rfl) 125 b (by simp)
 have hA3 : At P [32] s ([32] ++ ([124] ++ (32 :: (r ++ ([125] ++ b))))) t3 ⟨4, [124], 32 :: (r ++ ([125] ++ b))⟩ (d + 1) := ⟨Or.inr rfl, n3, hb4, n4, ⟨a ++ sp ++ [123] ++ nm ++ [32] ++ [105, 110], by rw [ha]; simp⟩, by omega, by omega⟩
 have hA5 : At P [32] r ([125] ++ b) t5 ⟨4, [125], b⟩ (d + 1) := ⟨Or.inr rfl, n5, hb, n6, ⟨a ++ sp ++ [123] ++ nm ++ [32] ++ [105, 110] ++ [32] ++ s ++ [32] ++ [124], by rw [ha]; simp⟩, by omega, by omega⟩
 have h3 := h.level hP hA3 7 (by omega) (by omega) (by show (0 : Int) < 7; omega) ⟨rfl, rfl, rfl⟩
 have h5 := k.lev hA5 rfl ⟨rfl, rfl, rfl⟩
 subst e
 exact amI hP hs n1 hi n2 n3 h3 hA3.z n5 h5 hA5.z hA.nr hA.d0 (by omega)
theorem atp {P nm s r : Str} {op : Int} {p q : Tm} (hP : P.length ≤ 1000000000) (ho : op = 8 ∨ op = 9 ∨ op = 56) (hi : ident nm = true) (h : MainC P p s) (k : Main P q r) : Main P (.mk op nm 0 bg [p, q]) (DX op ++ ([32] ++ (nm ++ ([32, 105, 110] ++ ([32] ++ (s ++ ([32, 46] ++ ([32] ++ r)))))))) := by
 obtain ⟨w1, w2, w3, w4, w5⟩ := alf ho
 refine ⟨fun hc => (by rw [show (Tm.mk op nm 0 bg [p, q]).op = op from rfl, w4] at hc; cases hc), fun {sp b t z d} hA hr hnl => ?_, fun w x e => (by injection e with e1; rcases ho with h | h | h <;> rw [h] at e1 <;> cases e1), .bind ho hi h.sh k.sh⟩
 have ea : DX op ++ ([32] ++ (nm ++ ([32, 105, 110] ++ ([32] ++ (s ++ ([32, 46] ++ ([32] ++ r))))))) ++ b = DX op ++ ([32] ++ (nm ++ ([32] ++ ([105, 110] ++ ([32] ++ (s ++ ([32] ++ ([46] ++ (32 :: (r ++ b)))))))))) := by simp
 have hs := hA.s
 obtain ⟨a, ha⟩ := hA.su
 have hd := hA.d1
 have hm := kC s
 have hm2 := kC r
 have hn := (pI.2.1 p s h.sh).1
 have hw := xq nm (lV hi)
 rw [dI, dI [32], dI nm, dI [32, 105, 110], dI [32], dI s, dI [32, 46], dI [32], hw.1, hw.2, hn, w3] at hd
 have k3 : net [32, 105, 110] = 0 := rfl
 have k4 : net [32] = 0 := rfl
 have k5 : net [32, 46] = 0 := rfl
 have g := hA.nt
 rw [ea] at g ha
 have e := g.uniq (Am w1 w2 hA.hsp (iw rfl (by decide))) (by have := hA.len hP; rw [ea] at this; exact this)
 have hd0 := hA.d0
 have n1 := oV (sp := [32]) (b := [32] ++ ([105, 110] ++ ([32] ++ (s ++ ([32] ++ ([46] ++ (32 :: (r ++ b)))))))) (Or.inr rfl) (iZ hi) (iw rfl (by decide))
 rw [za hi] at n1
 have n2 : Nx ([32] ++ ([105, 110] ++ ([32] ++ (s ++ ([32] ++ ([46] ++ (32 :: (r ++ b)))))))) ⟨2, [105, 110], [32] ++ (s ++ ([32] ++ ([46] ++ (32 :: (r ++ b)))))⟩ := Am ⟨⟨_, _, rfl, by decide⟩, by decide, by decide⟩ (by decide) (Or.inr rfl) (iw rfl (by decide))
 have hb4 : Sep ([32] ++ ([46] ++ (32 :: (r ++ b)))) := iw rfl (by decide)
 obtain ⟨_, _, hFp⟩ := pI.2.1 p s h.sh
 obtain ⟨t3, n3, _⟩ := hFp [32] _ (Or.inr rfl) hb4
 have n4 : Nx ([32] ++ ([46] ++ (32 :: (r ++ b)))) ⟨4, [46], 32 :: (r ++ b)⟩ := Kk (Or.inr rfl) ⟨46, [], rfl, by decide, by decide⟩ (by rw [ahN _ _ (by simp)]; decide)
 obtain ⟨_, _, hF⟩ := pI.1 q r k.sh
 obtain ⟨t5, n5, _⟩ := hF [32] b (Or.inr rfl) hA.sep
 have hA3 : At P [32] s ([32] ++ ([46] ++ (32 :: (r ++ b)))) t3 ⟨4, [46], 32 :: (r ++ b)⟩ d := ⟨Or.inr rfl, n3, hb4, n4, ⟨a ++ sp ++ DX op ++ [32] ++ nm ++ [32] ++ [105, 110], by rw [ha]; simp⟩, by omega, by omega⟩
 have hA5 : At P [32] r b t5 z d := ⟨Or.inr rfl, n5, hA.sep, hA.nr, ⟨a ++ sp ++ DX op ++ [32] ++ nm ++ [32] ++ [105, 110] ++ [32] ++ s ++ [32] ++ [46], by rw [ha]; simp⟩, by omega, by omega⟩
 have h3 := h.level hP hA3 7 (by omega) (by omega) (by show (0 : Int) < 7; omega) ⟨rfl, rfl, rfl⟩
 have h5 := k.lev hA5 hr hnl
 have hnn : zi t [110, 111, 116] = false ∧ zi t [45] = false := by
  rw [e]
  rcases ho with h | h | h <;> subst h <;> exact ⟨rfl, rfl⟩
 subst e
 exact ak1 (alc (aki hP ho hs n1 hi n2 n3 h3 hA3.z n5 h5 hA.d0 hA.dd) (afS hnl.1 hnl.2.1 hnl.2.2)) hnn.1 hnn.2 1 (by omega) (by omega) (by omega)
theorem avs {P s : Str} {p : Tm} (hP : P.length ≤ 1000000000) (h : MainC P p s) : Main P (bM 3 [p]) ([110, 111, 116, 32] ++ s) := by
 refine ⟨fun hc => (by cases hc), fun {sp b t z d} hA hr hnl => ?_, fun w x e => (by injection e with e1; cases e1), .not h.sh⟩
 have ea : [110, 111, 116, 32] ++ s ++ b = [110, 111, 116] ++ ([32] ++ (s ++ b)) := by simp
 have hs := hA.s
 obtain ⟨a, ha⟩ := hA.su
 have hd := hA.d1
 have hm := kC s
 rw [dI] at hd
 have k1 : net [110, 111, 116, 32] = 0 := rfl
 have g := hA.nt
 rw [ea] at g ha
 have e := g.uniq (Am ⟨⟨_, _, rfl, by decide⟩, by decide, by decide⟩ (by decide) hA.hsp (iw rfl (by decide))) (by have := hA.len hP; rw [ea] at this; exact this)
 obtain ⟨_, _, hF⟩ := pI.2.1 p s h.sh
 obtain ⟨t3, n3, _⟩ := hF [32] b (Or.inr rfl) hA.sep
 have hA3 : At P [32] s b t3 z d := ⟨Or.inr rfl, n3, hA.sep, hA.nr, ⟨a ++ sp ++ [110, 111, 116], by rw [ha]; simp⟩, hA.d0, by omega⟩
 have h3 := h.level hP hA3 5 (by omega) (by omega) (by omega) hnl
 have hd2 := hA.dd
 subst e
 exact ajv 5 (aqW hP hs n3 hA.d0 hd2 h3) (by omega) (by omega) hr (fun h => by omega) (fun h => by omega)
theorem avu {P s : Str} {p : Tm} (hP : P.length ≤ 1000000000) (h : MainC P p s) : Main P (bM 21 [p]) ([45] ++ s) := by
 refine ⟨fun hc => (by cases hc), fun {sp b t z d} hA hr hnl => ?_, fun w x e => (by injection e with e1; cases e1), .neg h.sh⟩
 have ea : [45] ++ s ++ b = [45] ++ ([] ++ (s ++ b)) := by simp
 have hs := hA.s
 obtain ⟨a, ha⟩ := hA.su
 have hd := hA.d1
 have hm := kC s
 rw [dI] at hd
 have k1 : net [45] = 0 := rfl
 have g := hA.nt
 rw [ea] at g ha
 obtain ⟨_, ⟨x, xs, ex, hx⟩, hF⟩ := pI.2.1 p s h.sh
 have n1 : Nx (sp ++ ([45] ++ ([] ++ (s ++ b)))) ⟨4, [45], [] ++ (s ++ b)⟩ := Kk hA.hsp ⟨45, [], rfl, by decide, by decide⟩ (by rw [ex]; exact agn x (xs ++ b) hx)
 have e := g.uniq n1 (by have := hA.len hP; rw [ea] at this; exact this)
 obtain ⟨t3, n3, _⟩ := hF [] b (Or.inl rfl) hA.sep
 have hA3 : At P [] s b t3 z d := ⟨Or.inl rfl, n3, hA.sep, hA.nr, ⟨a ++ sp ++ [45], by rw [ha]; simp⟩, hA.d0, by omega⟩
 have h3 := h.level hP hA3 13 (by omega) (by omega) (by omega) hnl
 have hd2 := hA.dd
 subst e
 exact ajv 13 (aqY hP hs n3 hA.d0 hd2 h3) (by omega) (by omega) hr (fun h => rfl) (fun h => by omega)
theorem aq2 {w s : Str} (h : ShC (ji w) s) : s = w := by
 cases h with
 | par hc _ => cases hc
 | pla hc h => cases h; rfl
theorem avl {P s r : Str} {op : Int} {p q : Tm} (hP : P.length ≤ 1000000000) (ho : (nK op == []) = false) (h : MainC P p s) (k : MainC P q r) : Main P (bM op [p, q]) (s ++ (([32] ++ nK op) ++ ([32] ++ r))) := by
 have hf := anT ho
 have hcm : Aj op = true := by unfold Aj; rw [ho]; cases op == 3 <;> cases op == 21 <;> cases op == 8 <;> cases op == 9 <;> cases op == 56 <;> rfl
 refine ⟨fun hc => (by rw [show (bM op [p, q]).op = op from rfl, hcm] at hc; cases hc), fun {sp b t z d} hA hr hnl => ?_, fun w x e => ?_, .bin ho h.sh k.sh⟩
 ·have ea : s ++ (([32] ++ nK op) ++ ([32] ++ r)) ++ b = s ++ ([32] ++ (nK op ++ (32 :: (r ++ b)))) := by simp
  obtain ⟨a, ha⟩ := hA.su
  have hd := hA.d1
  have hm := kC s
  have hm2 := kC r
  have hn := (pI.2.1 p s h.sh).1
  rw [dI, dI ([32] ++ nK op), dI [32] r, jM, hf.net, hn] at hd
  have k4 : net [32] = 0 := rfl
  have g := hA.nt
  rw [ea] at g ha
  have hd0 := hA.d0
  have n2 := arC hf (r ++ b)
  obtain ⟨_, _, hF⟩ := pI.2.1 q r k.sh
  obtain ⟨t3, n3, _⟩ := hF [32] b (Or.inr rfl) hA.sep
  have hA1 : At P sp s ([32] ++ (nK op ++ (32 :: (r ++ b)))) t ⟨Ye op, nK op, 32 :: (r ++ b)⟩ d := ⟨hA.hsp, g, iw rfl (by decide), n2, ⟨a, ha⟩, hA.d0, by omega⟩
  have hA3 : At P [32] r b t3 z d := ⟨Or.inr rfl, n3, hA.sep, hA.nr, ⟨a ++ sp ++ s ++ [32] ++ nK op, by rw [ha]; simp⟩, hA.d0, by omega⟩
  have hl := hf.lev
  have h1 := h.level hP hA1 (FW op + 1) (by omega) (by omega) (by rw [atK hf]; omega) (hf.nl _)
  have h2 : lq P t3 d (cond (FW op == 2) 2 (FW op + 1)) q z := by
   refine k.level hP hA3 _ ?_ ?_ ?_ hnl
   ·cases FW op == 2 <;> simp only [cond_true, cond_false] <;> omega
   ·cases FW op == 2 <;> simp only [cond_true, cond_false] <;> omega
   ·rw [hr]; cases FW op == 2 <;> simp only [cond_true, cond_false] <;> omega
  have h3 := aqC (p := p) hP hA1.z n3 hA.d0 hA.dd (hf.ud d).1 (hf.ud d).2 (akM op _) hf.bin hf.nz hl h2 hr
  have hnn := hA1.first hP h.sh
  exact ajv (FW op) (aqh h1 h3 (by omega) (by omega) (by omega)) (by omega) (by omega) hr (fun _ => hnn.1) (fun _ => hnn.2)
 ·injection e with e1 _ _ _ e2
  injection e2 with e3 e4
  injection e4 with e5
  subst e1 e3 e5
  refine ⟨r, ?_, k.post, k.sh⟩
  rw [aq2 h.sh]
def ML (P : Str) (ks : List Tm) (r : Str) : Prop := ∀ {b : Str} {t : Tk} {d : Int} (acc : List Tm), Nx (r ++ ([125] ++ b)) t → (∃ a, P = a ++ (r ++ ([125] ++ b))) → 0 ≤ d → d + uR r ≤ 64 → acc.length + ks.length ≤ 400000 → U9 P t d acc ⟨4, [125], b⟩ (acc ++ ks)
theorem auD {P : Str} (hP : P.length ≤ 1000000000) : ML P [] [] := by
 intro b t d acc ht ⟨a, ha⟩ h0 hd hl
 have e := ht.uniq (kD (sp := []) (Or.inl rfl) 125 b (by simp)) (by rw [ha, List.length_append] at hP; omega)
 subst e
 rw [List.append_nil]
 exact apB rfl
theorem ai3 {ks : List Tm} {r : Str} (h : ShL ks r) (b : Str) : Sep (r ++ ([125] ++ b)) ∧ ∃ t, Nx (r ++ ([125] ++ b)) t ∧ lvl t = 0 ∧ Nl t ∧ zi t [124] = false ∧ (t.k == 2 && t.w == [105, 110]) = false := by
 cases h with
 | nil => exact ⟨iw rfl (by decide), _, kD (sp := []) (Or.inl rfl) 125 b (by simp), rfl, ⟨rfl, rfl, rfl⟩, rfl, rfl⟩
 | @cons p ks s r h k =>
  refine ⟨iw rfl (by decide), ⟨4, [44], [32] ++ (s ++ (r ++ ([125] ++ b)))⟩, ?_, rfl, ⟨rfl, rfl, rfl⟩, rfl, rfl⟩
  have := kD (sp := []) (Or.inl rfl) 44 ([32] ++ (s ++ (r ++ ([125] ++ b)))) (by simp)
  simpa using this
theorem atc {P s r : Str} {p : Tm} {ks : List Tm} (hP : P.length ≤ 1000000000) (h : Main P p s) (kl : ShL ks r) (k : ML P ks r) : ML P (p :: ks) ([44] ++ ([32] ++ (s ++ r))) := by
 intro b t d acc ht ⟨a, ha⟩ h0 hd hl
 have ea : [44] ++ ([32] ++ (s ++ r)) ++ ([125] ++ b) = [44] ++ ([32] ++ (s ++ (r ++ ([125] ++ b)))) := by simp
 rw [ea] at ht ha
 have hm := kC s
 have hm2 := kC r
 obtain ⟨hn, _, hF⟩ := pI.1 p s h.sh
 rw [dI, dI [32], dI s, hn] at hd
 have k4 : net [32] = 0 := rfl
 have k5 : net [44] = 0 := rfl
 have e := ht.uniq (kD (sp := []) (Or.inl rfl) 44 _ (by simp)) (by rw [ha, List.length_append] at hP; omega)
 obtain ⟨hb, t3, n3, g1, g2, _⟩ := ai3 kl b
 obtain ⟨t2, n2, _⟩ := hF [32] _ (Or.inr rfl) hb
 have hA : At P [32] s (r ++ ([125] ++ b)) t2 t3 d := ⟨Or.inr rfl, n2, hb, n3, ⟨a ++ [44], by rw [ha]; simp⟩, h0, by omega⟩
 have h2 := h.lev hA g1 g2
 have hs : Su P t := ht.su ha
 have h3 := k (acc ++ [p]) n3 ⟨a ++ [44] ++ [32] ++ s, by rw [ha]; simp⟩ h0 (by omega) (by simp at hl ⊢; omega)
 rw [List.append_assoc] at h3
 subst e
 exact apb hP hs n2 h2 h0 (by omega) (by simp at hl; omega) h3
theorem aom {w : Str} (hi : ident w = true) : Ev (fun n => nW n (w ++ [39])) true := by
 unfold nW
 refine Ev.bind (a := true) ?_ (Ev.ret _)
 have h0 : 1 ≤ w.length := by
  cases w with
  | nil => cases hi
  | cons c cs => simp
 have h1 : decide (1 < ((w ++ [39] : Str).length : Int)) = true := by simp; omega
 have h2 : jl (w ++ [39]) (((w ++ [39] : Str).length : Int) - 1) = some 39 := by
  rw [show (((w ++ [39] : Str).length : Int) - 1) = (w.length : Int) by simp, show (w ++ [39] : Str) = w ++ 39 :: [] from rfl, tL]; rfl
 have h3 : iX (w ++ [39]) 0 (((w ++ [39] : Str).length : Int) - 1) = some w := by
  rw [show (((w ++ [39] : Str).length : Int) - 1) = (w.length : Int) by simp, CX _ _ (by simp)]; simp
 rw [h1, h2]
 simp only [cond_true, Option.bind_some]
 refine Ev.pos rfl ?_
 rw [h3]
 simp only [Option.bind_some]
 exact Ev.bind (Ev.eq (nU w) hi) (Ev.ret _)
theorem au7 {P : Str} {t : Tk} {d : Int} (hP : P.length ≤ 1000000000) (hs : Su P t) (h : HF t) : Ev (fun n => (cond (t.k == 1) ((nW n t.w).bind fun (x19 : Bool) => (cond (!x19) ((nZ n P t.k t.w (tpos P t) d 0 0).bind fun (x20 : Bool) => some x20) (some false))) (some false) : Option Bool)) false := by
 by_cases hk : t.k = 1
 ·have e : (t.k == 1) = true := by simp [hk]
  refine Ev.pos e ?_
  rcases h with h | ⟨w, e, hi⟩ | ⟨hi, r, nr, hr⟩
  ·exact absurd hk h
  ·rw [e]
   refine Ev.bind (aom hi) ?_
   exact Ev.ret _
  ·refine Ev.bind (vo hi) ?_
   refine Ev.pos rfl ?_
   exact Ev.bind (ND hP hs nr) (Ev.eq (Ev.ret _) hr)
 ·exact Ev.neg (by simpa using hk) (Ev.ret _)
theorem ata {ks : List Tm} {r : Str} (h : ShL ks r) : ks.length ≤ r.length := by
 refine ShL.rec (motive_1 := fun _ _ _ => True) (motive_2 := fun _ _ _ => True) (motive_3 := fun ks r _ => ks.length ≤ r.length) trivial trivial (fun _ => trivial) (fun _ => trivial) (fun _ => trivial) (fun _ _ => trivial) (fun _ _ => trivial) (fun _ _ _ _ _ _ => trivial) (fun _ _ _ _ _ => trivial) (fun _ _ _ _ => trivial) (fun _ _ _ _ => trivial) (fun _ _ => trivial) (fun _ _ _ _ => trivial) (fun _ _ _ _ => trivial) (fun _ _ _ _ _ => trivial) (fun _ _ _ => trivial) (fun _ _ _ => trivial) (Nat.le_refl _) (fun _ _ _ h => ?_) h
 simp only [List.length_cons, List.length_append]
 omega
theorem auL {P s r : Str} {p : Tm} {ks : List Tm} (hQ : P.length ≤ 65536) (h : Main P p s) (kl : ShL ks r) (k : ML P ks r) : Main P (bM 28 (p :: ks)) ([123] ++ (s ++ (r ++ [125]))) := by
 have hP : P.length ≤ 1000000000 := by omega
 refine rQ hP rfl (yM fun {sp b t z d} hA => ?_) (.set h.sh kl)
 have ea : [123] ++ (s ++ (r ++ [125])) ++ b = [123] ++ (s ++ (r ++ ([125] ++ b))) := by simp
 have hs := hA.s
 obtain ⟨a, ha⟩ := hA.su
 have hd := hA.d1
 have hm := kC s
 have hm2 := kC r
 obtain ⟨hn, _, hF⟩ := pI.1 p s h.sh
 rw [dI, dI s, dI r, hn] at hd
 have k1 : net [123] = 1 := rfl
 have k2 : uR [123] = 1 := rfl
 have g := hA.nt
 rw [ea] at g ha
 have hd0 := hA.d0
 have e := g.uniq (kD hA.hsp 123 _ (by simp)) (by have := hA.len hP; rw [ea] at this; exact this)
 obtain ⟨hb, r0, n0, l0, nl0, b0, i0⟩ := ai3 kl b
 obtain ⟨t3, n3, c3, _, f3⟩ := hF [] _ (Or.inl rfl) hb
 have hlen : ks.length ≤ 65536 := by
  have := ata kl
  rw [ha] at hQ
  simp only [List.length_append] at hQ
  omega
 have hA3 : ∀ t, Nx ([] ++ (s ++ (r ++ ([125] ++ b)))) t → At P [] s (r ++ ([125] ++ b)) t r0 (d + 1) := fun t nt => ⟨Or.inl rfl, nt, hb, n0, ⟨a ++ sp ++ [123], by rw [ha]; simp⟩, by omega, by omega⟩
 have hl := k (d := d + 1) [p] n0 ⟨a ++ sp ++ [123] ++ s, by rw [ha]; simp⟩ (by omega) (by omega) (by simp; omega)
 have n6 := kD (sp := []) (Or.inl rfl) 125 b (by simp)
 have hz : Su P ⟨4, [125], b⟩ := n6.su (a := a ++ sp ++ [123] ++ s ++ r) (by rw [ha]; simp)
 have rest : ∀ t, Nx ([] ++ (s ++ (r ++ ([125] ++ b)))) t → zi t [125] = false → HF t → zl P ⟨4, [123], s ++ (r ++ ([125] ++ b))⟩ d (bM 28 (p :: ks)) z := by
  intro t' nt ct ft
  have h1 := h.lev (hA3 t' nt) l0 nl0
  have hf := au7 (d := d + 1) hP (hA3 t' nt).s ft
  subst e
  exact aqK hP hs nt ct hf h1 hl hz hA.nr hA.d0 (by omega)
 have goal : zl P ⟨4, [123], s ++ (r ++ ([125] ++ b))⟩ d (bM 28 (p :: ks)) z := by
  rcases f3 with ⟨w, e1, e2, hi⟩ | ⟨w, q, e1, hi⟩ | f3
  ·have n1 := oV (sp := []) (b := r ++ ([125] ++ b)) (Or.inl rfl) (iZ hi) hb
   rw [za hi, ← e2] at n1
   exact rest ⟨1, s, r ++ ([125] ++ b)⟩ n1 rfl (Or.inr (Or.inr ⟨by rw [e2]; exact hi, r0, n0, i0⟩))
  ·obtain ⟨sq, es, pq, cq⟩ := h.sec w q e1
   have eb : s ++ (r ++ ([125] ++ b)) = w ++ ([32] ++ ([105, 110] ++ ([32] ++ (sq ++ (r ++ ([125] ++ b)))))) := by
    rw [es, show nK 16 = [105, 110] from rfl]; simp
   have hms : uR sq ≤ uR s := by
    have hw := xq w (lV hi)
    rw [es, dI, dI _ ([32] ++ sq), dI [32] sq, hw.1, show net ([32] ++ nK 16) = 0 from rfl, show net [32] = 0 from rfl]
    omega
   have n1 := oV (sp := []) (b := [32] ++ ([105, 110] ++ ([32] ++ (sq ++ (r ++ ([125] ++ b)))))) (Or.inl rfl) (iZ hi) (iw rfl (by decide))
   rw [za hi] at n1
   have n2 : Nx ([32] ++ ([105, 110] ++ ([32] ++ (sq ++ (r ++ ([125] ++ b)))))) ⟨2, [105, 110], [32] ++ (sq ++ (r ++ ([125] ++ b)))⟩ := Am ⟨⟨_, _, rfl, by decide⟩, by decide, by decide⟩ (by decide) (Or.inr rfl) (iw rfl (by decide))
   obtain ⟨_, _, hFq⟩ := pI.2.1 q sq cq
   obtain ⟨t4, n4, _⟩ := hFq [32] _ (Or.inr rfl) hb
   have hA4 : At P [32] sq (r ++ ([125] ++ b)) t4 r0 (d + 1) := ⟨Or.inr rfl, n4, hb, n0, ⟨a ++ sp ++ [123] ++ w ++ [32] ++ [105, 110], by rw [ha, eb]; simp⟩, by omega, by omega⟩
   have h4 := MainC.level ⟨pq, cq⟩ hP hA4 7 (by omega) (by omega) (by omega) nl0
   subst e
   rw [eb] at hs ⊢
   rw [e1] at hl ⊢
   exact as2 hP hs n1 hi n2 n4 h4 b0 l0 hl hz hA.nr hA.d0 (by omega)
  ·exact rest t3 n3 c3 f3
 rw [e]
 exact goal
theorem apO {P : Str} (hQ : P.length ≤ 65536) : ∀ {v : Tm} {s : Str}, Sh v s → Main P v s := by
 have hP : P.length ≤ 1000000000 := by omega
 intro v s h
 exact Sh.rec (motive_1 := fun v s _ => Main P v s) (motive_2 := fun v s _ => MainC P v s) (motive_3 := fun ks r _ => ML P ks r) (auR hP) (au5 hP) (fun h => m_num hP h) (fun h => avc hP h) (fun h => au8 hP h) (fun _ h => avs hP h) (fun _ h => avu hP h) (fun ho hi _ _ h k => atp hP ho hi h k) (fun hi _ _ h k => as9 hP hi h k) (fun _ _ h k => au6 hP h k) (fun _ _ h k => auJ hP h k) (fun _ h => auU hP h) (fun _ kl h k => auL hQ h kl k) (fun h1 h2 _ h => au0 hP h1 h2 h) (fun ho _ _ h k => avl hP ho h k) (fun hc _ h => avd hP hc h) (fun hc _ h => auP hc h) (auD hP) (fun _ kl h k => atc hP h kl k) h
theorem aq7 {v : Tm} {s : Str} (h : Sh v s) (hl : s.length ≤ 65536) (hm : uR s ≤ 64) (hv : Ev (fun n => iA n v) true) : Ev (fun n => KI n s) (v, 0, 0) := by
 obtain ⟨_, _, hF⟩ := pI.1 v s h
 obtain ⟨t, nt, _⟩ := hF [] [] (Or.inl rfl) (Or.inl rfl)
 have hA : At s [] s [] t ⟨0, [], []⟩ 0 := ⟨Or.inl rfl, nt, Or.inl rfl, atA, ⟨[], by simp⟩, by omega, by omega⟩
 have h1 := (apO hl h).lev hA rfl ⟨rfl, rfl, rfl⟩
 have hx := nt.lex [] (by simp; omega)
 simp only [List.nil_append, List.append_nil, List.length_nil] at hx
 unfold KI
 refine Ev.neg (decide_eq_false (by omega)) ?_
 refine Ev.bind hx ?_
 refine Ev.bind h1 ?_
 refine Ev.bind (a := (0, 0)) ?_ ?_
 ·unfold EO
  exact Ev.ret _
 ·refine Ev.neg rfl ?_
  refine Ev.bind hv ?_
  exact Ev.ret _
theorem XQ (env : Env) (t : Tm) (hs : jd env) (ht : gu t) : Ev (fun n => AA n env t) true := by
 unfold AA dh
 cases hb : jW env with
 | false =>
  refine Ev.bind (a := true) ?_ (Ev.ret _)
  refine Ev.bind (Ev.eq (lN env) hb) (Ev.ret _)
 | true =>
  cases hv : cB t with
  | false =>
   refine Ev.bind (a := true) ?_ (Ev.ret _)
   refine Ev.bind (Ev.eq (lN env) hb) ?_
   refine Ev.neg rfl ?_
   exact Ev.bind (Ev.eq (jB t) hv) (Ev.ret _)
  | true =>
   have hval : Ev (fun n => iA n t) true := Ev.eq (jB t) hv
   obtain ⟨s, es, ss, ls⟩ := asw t 1 (gM hv)
   have hz := amT (gM hv)
   have hl : s.length ≤ 1000000000 := by omega
   have hform : Ev (fun n => FJ n t) s := by
    unfold FJ
    refine Ev.bind hval ?_
    refine Ev.neg rfl ?_
    exact Ev.bind es (Ev.ret _)
   have hread : Ev (fun n => Ei n t) (decide ((s.length : Int) ≤ 65536) && decide (uR s ≤ 64)) := by
    unfold Ei
    refine Ev.bind hform ?_
    refine Ev.bind (akm s hl) ?_
    show Ev (fun n => ((iA n t).bind _ : Option Bool).bind _) _
    refine Ev.bind (a := (decide ((s.length : Int) ≤ 65536) && decide (uR s ≤ 64))) ?_ (Ev.ret _)
    refine Ev.bind hval ?_
    refine Ev.pos rfl ?_
    cases decide ((s.length : Int) ≤ 65536) <;> exact Ev.ret _
   cases hr : (decide ((s.length : Int) ≤ 65536) && decide (uR s ≤ 64)) with
   | false =>
    refine Ev.bind (a := true) ?_ (Ev.ret _)
    refine Ev.bind (Ev.eq (lN env) hb) ?_
    refine Ev.neg rfl ?_
    refine Ev.bind hval ?_
    refine Ev.neg rfl ?_
    exact Ev.bind (Ev.eq hread hr) (Ev.ret _)
   | true =>
    refine Ev.bind (a := false) ?_ ?_
    ·refine Ev.bind (Ev.eq (lN env) hb) ?_
     refine Ev.neg rfl ?_
     refine Ev.bind hval ?_
     refine Ev.neg rfl ?_
     exact Ev.bind (Ev.eq hread hr) (Ev.ret _)
    ·simp only [Bool.and_eq_true, decide_eq_true_eq] at hr
     refine Ev.neg rfl ?_
     refine Ev.bind hform ?_
     refine Ev.bind (aq7 ss (by omega) hr.2 hval) ?_
     refine Ev.bind (fC env t hs ht) ?_
     refine Ev.bind (fC env t hs ht) ?_
     refine Ev.bind (a := true) ?_ (Ev.ret _)
     refine Ev.pos rfl ?_
     refine Ev.pos (by simp) ?_
     refine Ev.pos (by simp) ?_
     refine Ev.bind (kV _) ?_
     exact Ev.ret _
end Abs
end Go.Proofs.YtiiaccpcoclklaaGreat

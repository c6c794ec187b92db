/-
  The abstract values (pure data without addresses), how they stand for the model's values in a world, and that this relation is kept by every change of private memory alone. Conditions: none; plain definitions and lemmas over any world.
-/
import Derived.Test.YtkopaeklihhdlaaGreatAl
import Derived.WalkKit
import Derived.MapKept
import Derived.Laws.BytesArg
import Derived.Lib.Strings
set_option linter.all false
namespace Go.Proofs.YtkopaeklihhdlaaGreat
namespace Abs
section
open Go
inductive Tag where
 |shared|nils|tip (l z:Nat)|full (n:Nat)
inductive AV where
 |unk
 |int (k:IntKind) (n:Int)
 |bool (b:Bool)
 |str (s:List UInt8)
 |nilp
 |ptr (l off:Nat)
 |eptr (cs:List AV)
 |slice (es:List (List AV)) (tag:Tag)
 |agg (cs:List AV)
 |tup (vs:List AV)
 |func (f:Nat) (caps:List AV)
 |mapr (l:Nat)
 |nilFunc
 |psl (l z len:Nat)
 |flist (ns:List (List AV))
 |ifc (t:TypeId) (v:Value)
 |yv (l:Nat)
instance:Inhabited AV:=⟨.unk⟩
inductive AObj where
 |box (cs:List AV)
 |tip (n:Nat)
 |mp (es:List (List UInt8×AV))
 |dead
 |res
 |arr (z:Nat) (es:List (List AV))
abbrev bg:=List (Option Nat)
abbrev bB:=Nat→Nat→Prop
def at?(κ:bg)(l:Nat):Option Nat:=(κ[l]?).getD none
def rD(k:IntKind)(n:Int):Prop:=k.min≤n∧n≤k.max
def Ma(w:World)(κ:bg)(a:Option Addr)(cap sz:Nat):Tag→Prop
 | .shared=>True
 | .nils=>a=none∧cap=0
 | .full n=>cap≤n
 | .tip l z=>z=sz∧((a=none∧cap=0)∨∃b c e,at? κ l=some b∧a=some ⟨b,0,none⟩∧w.heap[b]? =some (Obj.cells c e (0,0))∧cap*sz≤c.size)
inductive Rel(w:World)(κ:bg)(pv:bB):AV→Value→Prop where
 |unk (v:Value):Rel w κ pv .unk v
 |int {k:IntKind} {n:Int}:rD k n→Rel w κ pv (.int k n) (.int k n)
 |bool (b:Bool):Rel w κ pv (.bool b) (.bool b)
 |str {s:List UInt8}:s.length≤9223372036854775807→Rel w κ pv (.str s) (.string ⟨s.toArray⟩)
 |nilp:Rel w κ pv .nilp (.pointer none)
 |ifc (t:TypeId) (v:Value):Rel w κ pv (.ifc t v) (.iface t v)
 |ptr {l off b:Nat}:at? κ l=some b→Rel w κ pv (.ptr l off) (.pointer (some ⟨b,off,none⟩))
 |eptr {cs:List AV} {b off:Nat} (u:Nat→Value):(∀j,j<cs.length→¬pv b (off+j))→(∀j,j<cs.length→w.cell? ⟨b,off+j,none⟩=some (u j))→
   (∀j,j<cs.length→Rel w κ pv (cs.getD j .unk) (u j))→Rel w κ pv (.eptr cs) (.pointer (some ⟨b,off,none⟩))
 |slice {es:List (List AV)} {tag:Tag} {a:Option Addr} {cap:Nat} (b off sz:Nat) (u:Nat→Nat→Value):
   (∀i,i<es.length→(es.getD i []).length=sz)→(es≠[]→a=some ⟨b,off,none⟩)→es.length≤cap→es.length≤9223372036854775807→
   (∀i j,i<es.length→j<sz→¬pv b (off+(i*sz+j)))→(∀i j,i<es.length→j<sz→w.cell? ⟨b,off+(i*sz+j),none⟩=some (u i j))→
   (∀i j,i<es.length→j<sz→Rel w κ pv ((es.getD i []).getD j .unk) (u i j))→Ma w κ a cap sz tag→Rel w κ pv (.slice es tag) (.slice a es.length cap)
 |agg {cs:List AV} {vs:List Value}:vs.length=cs.length→(∀j,j<cs.length→Rel w κ pv (cs.getD j .unk) (vs.getD j undef))→Rel w κ pv (.agg cs) (.agg vs.toArray)
 |tup {cs:List AV} {vs:List Value}:vs.length=cs.length→(∀j,j<cs.length→Rel w κ pv (cs.getD j .unk) (vs.getD j undef))→Rel w κ pv (.tup cs) (.tuple vs.toArray)
 |func {f:Nat} {cs:List AV} {vs:List Value}:vs.length=cs.length→(∀j,j<cs.length→Rel w κ pv (cs.getD j .unk) (vs.getD j undef))→Rel w κ pv (.func f cs) (.func (.func f) #[] vs.toArray)
 |mapr {l b:Nat}:at? κ l=some b→Rel w κ pv (.mapr l) (.map (some b))
 |nilFunc:Rel w κ pv .nilFunc .nilFunc
 |yv (l:Nat):Rel w κ pv (.yv l) (.func (.yield l) #[] #[])
 |psl {l z len cap:Nat} {a:Option Addr}:len≤cap→len≤140737488355328→Ma w κ a cap z (.tip l z)→Rel w κ pv (.psl l z len) (.slice a len cap)
 |flnil:Rel w κ pv (.flist []) (.pointer none)
 |flcons {cs:List AV} {r:List (List AV)} {b off:Nat} (u:Nat→Value) (x:Value):(∀j,j≤cs.length→¬pv b (off+j))→(∀j,j<cs.length→w.cell? ⟨b,off+j,none⟩=some (u j))→w.cell? ⟨b,off+cs.length,none⟩=some x→
   (∀j,j<cs.length→Rel w κ pv (cs.getD j .unk) (u j))→Rel w κ pv (.flist r) x→Rel w κ pv (.flist (cs::r)) (.pointer (some ⟨b,off,none⟩))
structure Evo(pv:bB)(w w':World):Prop where
 size:w.heap.size≤w'.heap.size
 cell:∀b off u,¬pv b off→w.cell? ⟨b,off,none⟩=some u→w'.cell? ⟨b,off,none⟩=some u
 shape:∀(b:Nat) c e z,w.heap[b]? =some (Obj.cells c e z)→∃c',w'.heap[b]? =some (Obj.cells c' e z)∧c'.size=c.size
theorem Evo.refl(pv:bB)(w:World):Evo pv w w:=⟨qAc _,fun _ _ _ _ h=>h,fun _ c _ _ h=>⟨c,h,rfl⟩⟩
theorem Evo.trans{pv pv':bB}{a b c:World}(h:Evo pv a b)(k:Evo pv' b c)(hp:∀x o,pv' x o→x<a.heap.size→pv x o):Evo pv a c:=by
 refine⟨qAj h.size k.size,fun x o u hn hc=>k.cell x o u (fun hp'=>?_) (h.cell x o u hn hc),fun x d e z hx=>?_⟩
 ·by_cases hx:x<a.heap.size
  ·grind
  ·have:a.heap[x]? =none:=by simp;omega
   simp[World.cell?,this]at hc
 ·obtain⟨d1,h1,s1⟩:=h.shape x d e z hx;obtain⟨d2,h2,s2⟩:=k.shape x d1 e z h1
  grind
def bV(κ κ':bg):Prop:=∀l b,at? κ l=some b→at? κ' l=some b
theorem bV.refl(κ:bg):bV κ κ:=fun _ _ h=>h
theorem bV.trans{a b c:bg}(h:bV a b)(k:bV b c):bV a c:=fun l x hx=>k l x (h l x hx)
theorem Ma.mono{w w':World}{κ κ':bg}{pv:bB}{a:Option Addr}{cap sz:Nat}{t:Tag}(h:Ma w κ a cap sz t)(he:Evo pv w w')(hk:bV κ κ'):Ma w' κ' a cap sz t:=by
 cases t with
 |shared=>trivial
 |nils=>exact h
 |full n=>exact h
 |tip l z=>
  obtain⟨hz,h|⟨b,c,e,h1,h2,h3,h4⟩⟩:=h
  ·exact⟨hz,.inl h⟩
  ·obtain⟨c',h5,h6⟩:=he.shape b c e _ h3;exact⟨hz,.inr ⟨b,c',e,hk l b h1,h2,h5,(by rw[h6];exact h4)⟩⟩
theorem lt_of_cell{w:World}{b o:Nat}{u:Value}(h:w.cell? ⟨b,o,none⟩=some u):b<w.heap.size:=by
 apply qAT;intro hn;have:w.heap[b]? =none:=by simp;omega
 simp[World.cell?,this]at h
theorem Rel.mono{w w':World}{κ κ':bg}{pv pv':bB}(he:Evo pv w w')(hk:bV κ κ')(hp:∀b o,pv' b o→b<w.heap.size→pv b o):
  ∀{x:AV} {v:Value},Rel w κ pv x v→Rel w' κ' pv' x v:=by
 intro x v h
 induction h with
 |unk v=>exact .unk v
 |int h=>exact .int h
 |bool b=>exact .bool b
 |str h=>exact .str h
 |nilp=>exact .nilp
 |ifc t v=>exact .ifc t v
 |ptr h=>exact .ptr (hk _ _ h)
 |eptr u h1 h2 _ ih=>exact .eptr u (fun j hj hpv=>h1 j hj (hp _ _ hpv (lt_of_cell (h2 j hj)))) (fun j hj=>he.cell _ _ _ (h1 j hj) (h2 j hj)) ih
 |slice b off sz u h1 h2 h3 h3' h4 h5 _ ht ih=>
  exact .slice b off sz u h1 h2 h3 h3' (fun i j hi hj hpv=>h4 i j hi hj (hp _ _ hpv (lt_of_cell (h5 i j hi hj)))) (fun i j hi hj=>he.cell _ _ _ (h4 i j hi hj) (h5 i j hi hj)) ih (ht.mono he hk)
 |agg h1 _ ih=>exact .agg h1 ih
 |tup h1 _ ih=>exact .tup h1 ih
 |func h1 _ ih=>exact .func h1 ih
 |mapr h=>exact .mapr (hk _ _ h)
 |nilFunc=>exact .nilFunc
 |yv l=>exact .yv l
 |psl h1 h2 h3=>exact .psl h1 h2 (h3.mono he hk)
 |flnil=>exact .flnil
 |@flcons cs r b off u x h1 h2 h3 _ _ ih1 ih2=>
  have hlt:b<w.heap.size:=lt_of_cell h3;exact .flcons u x (fun j hj hpv=>h1 j hj (hp _ _ hpv hlt)) (fun j hj=>he.cell _ _ _ (h1 j (Nat.le_of_lt hj)) (h2 j hj)) (he.cell _ _ _ (h1 _ (qAc _)) h3) ih1 ih2
theorem Rel.share{w:World}{κ:bg}{pv:bB}{es:List (List AV)}{t:Tag}{v:Value}(h:Rel w κ pv (.slice es t) v):Rel w κ pv (.slice es .shared) v:=by
 cases h with
 |slice b off sz u h1 h2 h3 h3' h4 h5 h6 _=>exact .slice b off sz u h1 h2 h3 h3' h4 h5 h6 trivial
structure ASt where
 tmps:List AV
 heap:List AObj
def obj?(H:List AObj)(l:Nat):AObj:=(H[l]?).getD .dead
def qW:AObj→Nat→Prop
 | .box _,_=>True
 | .mp _,_=>True
 | .tip n,off=>n≤off
 | .arr _ _,_=>True
 |_,_=>False
def live:AObj→Prop
 | .box _=>True
 | .mp _=>True
 | .tip _=>True
 | .arr _ _=>True
 |_=>False
structure Ctx where
 aN:bB
 old:Nat→Prop
 w0:World
 k0:bg
 pvE:bB
 ds:List Deferred:=[]
def aO(aN:bB)(κ:bg)(H:List AObj):bB:=fun b off=>aN b off∨∃l,at? κ l=some b∧qW (obj? H l) off
def aif(ms:Array MapEntry)(clock:Nat)(ks:List (List UInt8)):Prop:=ks.length≤140737488355328∧MapKept.Stamped ms clock∧∀k∈ks,k.length≤9223372036854775807
def nE(w:World)(κ:bg)(pv:bB)(b:Nat):AObj→Prop
 | .box cs=>∃c e,w.heap[b]? =some (Obj.cells c e (0,0))∧c.size=cs.length∧∀j,j<cs.length→Rel w κ pv (cs.getD j .unk) (c.getD j undef)
 | .tip n=>∃c e,w.heap[b]? =some (Obj.cells c e (0,0))∧n≤c.size
 | .mp es=>∃ms clock,w.heap[b]? =some (Obj.map ms clock)∧ms.size=es.length∧aif ms clock (es.map (·.1))∧
   ∀j,j<es.length→(ms.getD j default).key=.string ⟨((es.getD j ([],.unk)).1).toArray⟩∧Rel w κ pv (es.getD j ([],.unk)).2 (ms.getD j default).val
 | .arr z es=>∃c e,w.heap[b]? =some (Obj.cells c e (0,0))∧es.length*z≤c.size∧(∀i,i<es.length→(es.getD i []).length=z)∧
   ∀i j,i<es.length→j<z→Rel w κ pv ((es.getD i []).getD j .unk) (c.getD (i*z+j) undef)
 |_=>True
structure Sim(C:Ctx)(κ:bg)(s:ASt)(a:Act)(w:World):Prop where
 defers:a.defers=C.ds
 len:a.tmps.size=s.tmps.length
 slot:∀n,n<s.tmps.length→Rel w κ (aO C.aN κ s.heap) (s.tmps.getD n .unk) (a.tmps.getD n undef)
 klen:κ.length=s.heap.length
 kext:bV C.k0 κ
 resv:∀l,obj? s.heap l=.res→at? κ l=none
 obj:∀l b,at? κ l=some b→live (obj? s.heap l)→nE w κ (aO C.aN κ s.heap) b (obj? s.heap l)
 apart:∀l l' b,at? κ l=some b→at? κ l'=some b→live (obj? s.heap l)→live (obj? s.heap l')→l=l'
 own:∀l b,at? κ l=some b→live (obj? s.heap l)→¬C.old b
 bound:∀l b,at? κ l=some b→b<w.heap.size
 pvold:∀b o,C.aN b o→C.old b
 oldlt:∀b,C.old b→b<C.w0.heap.size
 old:∀b:Nat,C.old b→w.heap[b]? =C.w0.heap[b]?
 os:w.os=C.w0.os
 tape:w.tape=C.w0.tape
 output:w.output=C.w0.output
 size:C.w0.heap.size≤w.heap.size
 pvsub:∀b o,aO C.aN κ s.heap b o→b<C.w0.heap.size→C.pvE b o
 iH:Evo C.pvE C.w0 w
def ASt.setSlot(s:ASt)(d:Nat)(v:AV):ASt:={s with tmps:=s.tmps.set d v}
def ASt.setObj(s:ASt)(l:Nat)(o:AObj):ASt:={s with heap:=s.heap.set l o}
theorem iw{α:Type}{l:List α}{n:Nat}{v d:α}(h:n<l.length):(l.set n v).getD n d=v:=by grind
theorem j5{α:Type}{l:List α}{n m:Nat}{v d:α}(h:n≠m):(l.set n v).getD m d=l.getD m d:=by grind
theorem lY{c:Array Value}{n:Nat}{v d:Value}(h:n<c.size):(c.setIfInBounds n v).getD n d=v:=by simp_all
theorem jK{c:Array Value}{n m:Nat}{v d:Value}(h:n≠m):(c.setIfInBounds n v).getD m d=c.getD m d:=by simp_all
theorem Sim.put{C:Ctx}{κ:bg}{s:ASt}{a:Act}{w:World}(h:Sim C κ s a w){d:Nat}{v:AV}{u:Value}(hv:Rel w κ (aO C.aN κ s.heap) v u):
  Sim C κ (s.setSlot d v) (a.put (some d) u) w:=by
 refine{h with len:=?_,slot:=?_}
 ·simp[ASt.setSlot,Act.put,h.len]
 ·intro n hn;simp only[ASt.setSlot,qBc]at hn⊢;simp only[Act.put];by_cases hd:d=n
  ·subst hd;rw[iw hn,lY (by rw[h.len];exact hn)];exact hv
  ·rw[j5 hd,jK hd];exact h.slot n hn
theorem at?_set_same{κ:bg}{k b:Nat}(h:k<κ.length):at? (κ.set k (some b)) k=some b:=by simp[at?,h]
theorem at?_set_other{κ:bg}{k l b:Nat}(h:k≠l):at? (κ.set k (some b)) l=at? κ l:=by simp[at?,qBE h]
theorem obj?_set_same{H:List AObj}{k:Nat}{o:AObj}(h:k<H.length):obj? (H.set k o) k=o:=by simp[obj?,h]
theorem obj?_set_other{H:List AObj}{k l:Nat}{o:AObj}(h:k≠l):obj? (H.set k o) l=obj? H l:=by simp[obj?,qBE h]
theorem lt_of_at?{κ:bg}{l b:Nat}(h:at? κ l=some b):l<κ.length:=by
 unfold at? at h
 grind
theorem nE.mono{w w':World}{κ κ':bg}{pv pv':bB}{b:Nat}{o:AObj}(h:nE w κ pv b o)(hb:w'.heap[b]? =w.heap[b]?)(he:Evo pv w w')(hk:bV κ κ')
  (hp:∀b o,pv' b o→b<w.heap.size→pv b o):nE w' κ' pv' b o:=by
 cases o with
 |box cs=>
  obtain⟨c,e,h1,h2,h3⟩:=h;exact⟨c,e,by rw[hb];exact h1,h2,fun j hj=>(h3 j hj).mono he hk hp⟩
 |tip n=>
  obtain⟨c,e,h1,h2⟩:=h;exact⟨c,e,by rw[hb];exact h1,h2⟩
 |mp es=>
  obtain⟨ms,cl,h1,h2,h3,h4⟩:=h;exact⟨ms,cl,by rw[hb];exact h1,h2,h3,fun j hj=>⟨(h4 j hj).1,(h4 j hj).2.mono he hk hp⟩⟩
 |dead=>trivial
 |res=>trivial
 |arr z es=>
  obtain⟨c,e,h1,h2,h3,h4⟩:=h;exact⟨c,e,by rw[hb];exact h1,h2,h3,fun i j hi hj=>(h4 i j hi hj).mono he hk hp⟩
theorem Sim.step{C:Ctx}{κ κ':bg}{s:ASt}{a:Act}{w w':World}{H':List AObj}(h:Sim C κ s a w)
  (he:Evo (aO C.aN κ s.heap) w w') (hk:bV κ κ') (hl:κ'.length=H'.length)
  (hp:∀b o,aO C.aN κ' H' b o→b<w.heap.size→aO C.aN κ s.heap b o)
  (hobj:∀l b,at? κ' l=some b→live (obj? H' l)→(at? κ l=some b∧obj? H' l=obj? s.heap l∧w'.heap[b]? =w.heap[b]?)∨
   (b<w'.heap.size∧¬C.old b∧nE w' κ' (aO C.aN κ' H') b (obj? H' l)))
  (hap:∀l l' b,at? κ' l=some b→at? κ' l'=some b→live (obj? H' l)→live (obj? H' l')→l=l')
  (hbd:∀l b,at? κ' l=some b→b<w'.heap.size)
  (hrv:∀l,obj? H' l=.res→at? κ' l=none)
  (hold:∀b:Nat,C.old b→w'.heap[b]? =w.heap[b]?) (hos:w'.os=w.os) (ht:w'.tape=w.tape) (ho:w'.output=w.output):
  Sim C κ' {s with heap:=H'} a w':=by
 have hp0:∀b o,aO C.aN κ' H' b o→b<C.w0.heap.size→C.pvE b o:=fun b o hb hlt=>h.pvsub b o (hp b o hb (qAq hlt h.size)) hlt;refine⟨h.defers,h.len,fun n hn=>(h.slot n hn).mono he hk hp,hl,h.kext.trans hk,hrv,?_,hap,?_,hbd,h.pvold,h.oldlt,fun b hb=>(hold b hb).trans (h.old b hb),hos.trans h.os,ht.trans h.tape,ho.trans h.output,qAj h.size he.size,hp0,h.iH.trans he h.pvsub⟩
 ·intro l b hat hlv;rcases hobj l b hat hlv with⟨h1,h2,h3⟩|⟨_,_,h3⟩
  ·rw[show obj? ({s with heap:=H'}:ASt).heap l=obj? s.heap l from h2]at hlv⊢;exact(h.obj l b h1 hlv).mono h3 he hk hp
  ·exact h3
 ·intro l b hat hlv;rcases hobj l b hat hlv with⟨h1,h2,_⟩|⟨_,h3,_⟩
  ·exact h.own l b h1 (by rw[←h2];exact hlv)
  ·exact h3
theorem Evo.of_heap{pv:bB}{w w':World}(h:w'.heap=w.heap):Evo pv w w':=
 ⟨by rw[h];exact qAc _,fun _ _ _ _ hc=>by simpa[World.cell?,h]using hc,fun b c e z hb=>⟨c,by rw[h];exact hb,rfl⟩⟩
theorem Sim.sameHeap{C:Ctx}{κ:bg}{s:ASt}{a:Act}{w w':World}(h:Sim C κ s a w)(hh:w'.heap=w.heap)(hos:w'.os=w.os)(ht:w'.tape=w.tape)(ho:w'.output=w.output):
  Sim C κ s a w':=
 h.step (H':=s.heap) (Evo.of_heap hh) (bV.refl _) h.klen (fun _ _ hb _=>hb) (fun l b h1 _=>.inl ⟨h1,rfl,by rw[hh]⟩) h.apart (fun l b hb=>by rw[hh];exact h.bound l b hb) h.resv (fun b _=>by rw[hh]) hos ht ho
theorem cell?_push{w:World}{o:Obj}{b off:Nat}{u:Value}(h:w.cell? ⟨b,off,none⟩=some u):World.cell? {w with heap:=w.heap.push o} ⟨b,off,none⟩=some u:=by
 simp only[World.cell?]at h⊢
 grind
theorem Pv{w:World}{o:Obj}{b:Nat}(h:b<w.heap.size):(w.heap.push o)[b]? =w.heap[b]?:=by grind
theorem Evo.push{pv:bB}{w:World}(o:Obj):Evo pv w {w with heap:=w.heap.push o}:=by
 refine⟨by simp,fun b off u _ hc=>cell?_push hc,fun b c e z hb=>⟨c,?_,rfl⟩⟩
 grind
theorem Sim.new{C:Ctx}{κ:bg}{s:ASt}{a:Act}{w:World}(h:Sim C κ s a w){k:Nat}(hk:at? κ k=none)(hlt:k<s.heap.length)(o:Obj)(ao:AObj)(hnr:ao≠ .res)
  (hrel:nE {w with heap:=w.heap.push o} (κ.set k (some w.heap.size)) (aO C.aN (κ.set k (some w.heap.size)) (s.heap.set k ao)) w.heap.size ao):
  Sim C (κ.set k (some w.heap.size)) (s.setObj k ao) a {w with heap:=w.heap.push o}:=by
 have hlk:k<κ.length:=by rw[h.klen];exact hlt
 have hext:bV κ (κ.set k (some w.heap.size)):=fun l b hb=>by
  rw[at?_set_other];exact hb
  grind
 refine h.step (H':=s.heap.set k ao) (Evo.push o) hext (by simp[h.klen]) ?_ ?_ ?_ ?_ ?_ ?_ rfl rfl rfl
 ·rintro b off (hb|⟨l,h1,h2⟩) hlt'
  ·exact .inl hb
  ·by_cases hl:k=l
   ·subst hl;rw[at?_set_same hlk]at h1;cases h1;omega
   ·rw[at?_set_other hl]at h1;rw[obj?_set_other hl]at h2;exact .inr ⟨l,h1,h2⟩
 ·intro l b h1 h2;by_cases hl:k=l
  ·subst hl;rw[at?_set_same hlk]at h1;cases h1;refine .inr ⟨by simp,fun ho=>?_,by rw[obj?_set_same hlt];exact hrel⟩;have:=h.oldlt _ ho;have:=h.size;omega
  ·rw[at?_set_other hl]at h1;exact .inl ⟨h1,by rw[obj?_set_other hl],Pv (h.bound l b h1)⟩
 ·intro l l' b h1 h2 h3 h4;by_cases hl:k=l<;>by_cases hl':k=l'
  ·grind
  ·subst hl;rw[at?_set_same hlk]at h1;cases h1;rw[at?_set_other hl']at h2;have:=h.bound _ _ h2;omega
  ·subst hl';rw[at?_set_same hlk]at h2;cases h2;rw[at?_set_other hl]at h1;have:=h.bound _ _ h1;omega
  ·rw[at?_set_other hl]at h1;rw[at?_set_other hl']at h2;rw[obj?_set_other hl]at h3;rw[obj?_set_other hl']at h4;exact h.apart l l' b h1 h2 h3 h4
 ·intro l b h1;by_cases hl:k=l
  ·subst hl;rw[at?_set_same hlk]at h1;cases h1;simp
  ·rw[at?_set_other hl]at h1;have:=h.bound l b h1;simp;omega
 ·intro l hl;by_cases e:k=l
  ·subst e;rw[obj?_set_same hlt]at hl;exact(hnr hl).elim
  ·rw[obj?_set_other e]at hl;rw[at?_set_other e];exact h.resv l hl
 ·intro b hb;exact Pv (qAq (h.oldlt b hb) h.size)
theorem Sim.box{C:Ctx}{κ:bg}{s:ASt}{a:Act}{w:World}(h:Sim C κ s a w){l b:Nat}{cs:List AV}(hl:at? κ l=some b)(ho:obj? s.heap l=.box cs):
  ∃c e,w.heap[b]? =some (Obj.cells c e (0,0))∧c.size=cs.length∧(∀j,j<cs.length→w.cell? ⟨b,j,none⟩=some (c.getD j undef))∧
   ∀j,j<cs.length→Rel w κ (aO C.aN κ s.heap) (cs.getD j .unk) (c.getD j undef):=by
 have hr:=h.obj l b hl (by rw[ho];trivial);rw[ho]at hr;obtain⟨c,e,h1,h2,h3⟩:=hr;refine⟨c,e,h1,h2,fun j hj=>?_,h3⟩;simp[World.cell?,h1,show j<c.size by omega]
theorem qA{w:World}{b j k:Nat}{u:Value}(h:k≠b):(w.setCell ⟨b,j,none⟩ u).heap[k]? =w.heap[k]?:=by
 simp[World.setCell,qBq,qAZ h]
theorem yE{w:World}{b j:Nat}{u:Value}{c:Array Value}{e:TypeId}{z:Nat×Nat}(h:w.heap[b]? =some (Obj.cells c e z)):
  (w.setCell ⟨b,j,none⟩ u).heap[b]? =some (Obj.cells (c.setIfInBounds j u) e z):=by
 simp[World.setCell,qBq,h]
theorem Evo.setCell{pv:bB}{w:World}{b j:Nat}{u:Value}(hp:pv b j):Evo pv w (w.setCell ⟨b,j,none⟩ u):=by
 refine⟨by simp,fun x o y hn hc=>?_,fun x c e z hx=>?_⟩
 ·rw[World.cell?_setCell_other];exact hc
  grind
 ·by_cases hxb:x=b
  ·subst hxb;exact⟨_,yE hx,by simp⟩
  ·exact⟨c,by rw[qA hxb];exact hx,rfl⟩
theorem Sim.store{C:Ctx}{κ:bg}{s:ASt}{a:Act}{w:World}(h:Sim C κ s a w){l b j:Nat}{cs:List AV}{v:AV}{u:Value}(hl:at? κ l=some b)(ho:obj? s.heap l=.box cs)
  (hj:j<cs.length) (hv:Rel w κ (aO C.aN κ s.heap) v u):Sim C κ (s.setObj l (.box (cs.set j v))) a (w.setCell ⟨b,j,none⟩ u):=by
 obtain⟨c,e,h1,h2,_,h4⟩:=h.box hl ho;have hll:l<s.heap.length:=by rw[←h.klen];exact lt_of_at? hl
 have hpv:aO C.aN κ s.heap b j:=.inr ⟨l,hl,by rw[ho];trivial⟩;have hevo:Evo (aO C.aN κ s.heap) w (w.setCell ⟨b,j,none⟩ u):=Evo.setCell hpv;have hp:∀x o,aO C.aN κ (s.heap.set l (.box (cs.set j v))) x o→x<w.heap.size→aO C.aN κ s.heap x o:=by
  rintro x o (hx|⟨l',h1',h2'⟩) _
  ·exact .inl hx
  ·by_cases e:l=l'
   ·subst e;exact .inr ⟨l,h1',by rw[ho];trivial⟩
   ·rw[obj?_set_other e]at h2';exact .inr ⟨l',h1',h2'⟩
 refine h.step (H':=s.heap.set l (.box (cs.set j v))) hevo (bV.refl _) (by simp[h.klen]) hp ?_ ?_ ?_ ?_ ?_ rfl rfl rfl
 ·intro l' b' h1' h2';by_cases e:l=l'
  ·subst e;rw[hl]at h1';cases h1';refine .inr ⟨by simpa using h.bound l b hl,h.own l b hl (by rw[ho];trivial),?_⟩;rw[obj?_set_same hll];refine⟨_,_,yE h1,by simp[h2],fun i hi=>?_⟩;simp only[qBc]at hi;by_cases ei:j=i
   ·subst ei;rw[iw hi,lY (by omega)];exact hv.mono hevo (bV.refl _) hp
   ·rw[j5 ei,jK ei];exact(h4 i hi).mono hevo (bV.refl _) hp
  ·rw[obj?_set_other e]at h2'⊢;refine .inl ⟨h1',rfl,qA fun eb=>?_⟩;subst eb;exact e (h.apart l l' b' hl h1' (by rw[ho];trivial) h2')
 ·intro l1 l2 b' h1' h2' h3' h4';refine h.apart l1 l2 b' h1' h2' ?_ ?_
  ·by_cases e:l=l1
   ·subst e;rw[ho];trivial
   ·rwa[obj?_set_other e]at h3'
  ·by_cases e:l=l2
   ·subst e;rw[ho];trivial
   ·rwa[obj?_set_other e]at h4'
 ·intro l' b' hb';simpa using h.bound l' b' hb'
 ·intro l' hl';by_cases e:l=l'
  ·subst e;rw[obj?_set_same hll]at hl';cases hl'
  ·rw[obj?_set_other e]at hl';exact h.resv l' hl'
 ·intro b' hb';refine qA fun eb=>?_;subst eb;exact h.own l b' hl (by rw[ho];trivial) hb'
def D5:Value→AV
 | .int k n=>if k.min≤n∧n≤k.max then .int k n else .unk
 | .bool b=>.bool b
 | .string s=>if s.data.toList.length≤9223372036854775807 then .str s.data.toList else .unk
 | .pointer none=>.nilp
 | .slice none 0 0=>.slice [] .nils
 | .nilFunc=>.nilFunc
 |_=>.unk
theorem adS{w:World}{κ:bg}{pv:bB}(v:Value):Rel w κ pv (D5 v) v:=by
 unfold D5;split
 ·split
  ·rename_i h;exact .int h
  ·exact .unk _
 ·exact .bool _
 ·split
  ·rename_i s h;have:s=⟨s.data.toList.toArray⟩:=by simp
   exact .str h
  ·exact .unk _
 ·exact .nilp
 ·exact .slice (es:=[]) (tag:=.nils) 0 0 0 (fun _ _=>undef) (fun i h=>by cases h) (fun h=>(h rfl).elim) (qAV _) (by simp) (fun i j h=>by cases h) (fun i j h=>by cases h) (fun i j h=>by cases h) ⟨rfl,rfl⟩
 ·exact .nilFunc
 ·exact .unk _
def ofConst:Value→AV
 | .agg cs=>.agg (cs.toList.map D5)
 |v=>D5 v
theorem uO{w:World}{κ:bg}{pv:bB}(v:Value):Rel w κ pv (ofConst v) v:=by
 unfold ofConst;split
 ·rename_i cs;have h:Rel w κ pv (.agg (cs.toList.map D5)) (.agg cs.toList.toArray):=.agg (by simp) fun j hj=>by
   have e:(cs.toList.map D5).getD j .unk=D5 (cs.toList.getD j undef):=by
    grind
   rw[e];exact adS _
  simp_all
 ·exact adS _
def bC(tmps:List AV):Operand→AV
 | .tmp t=>tmps.getD t .unk
 | .const v=>ofConst v
 | .func f=>.func f []
 | .global _=>.unk
theorem Sim.ev{C:Ctx}{κ:bg}{s:ASt}{a:Act}{w:World}(h:Sim C κ s a w)(x:Operand):Rel w κ (aO C.aN κ s.heap) (bC s.tmps x) (a.eval x):=by
 cases x with
 |tmp t=>
  by_cases ht:t<s.tmps.length
  ·exact h.slot t ht
  ·have:s.tmps.getD t .unk=.unk:=by rw[List.getD,qAn (qAu ht)];rfl
   simp only[bC,this];exact .unk _
 |const v=>exact uO v
 |func f=>
  have h:=Rel.func (w:=w) (κ:=κ) (pv:=aO C.aN κ s.heap) (f:=f) (cs:=[]) (vs:=[]) rfl (fun j hj=>by cases hj);simpa[bC,Act.eval]using h
 |global g=>exact .unk _
def sizeT(P:Program)(t:TypeId):Option Nat:=(P.info? t).map (·.size)
def IE(P:Program)(t:TypeId):Option Bool:=
 match P.underlying t with
 |some (.struct _)=>some true
 |some (.array _ _)=>some true
 |some _=>some false
 |none=>none
def xO(P:Program)(s:TypeId)(f:Nat):Option (Nat×TypeId):=
 match P.underlying s with
 |some (.struct fs)=>(fs[f]?).bind fun x=>match sizeT P x.type with|some (_+1)=>some (x.offset,x.type)|_=>none
 |_=>none
def jI(P:Program)(t:TypeId)(cs:List AV):Option AV:=
 match IE P t with
 |some true=>match sizeT P t with
  |some n=>if cs.length=n then some (.agg cs)else if n≤cs.length then some (.agg (cs.take n))else none
  |none=>none
 |some false=>match cs with|[]=>none|c::_=>some c
 |none=>none
theorem yN(b off n:Nat):Addr.add ⟨b,off,none⟩ n=⟨b,off+n,none⟩:=by
 unfold Addr.add;split
 ·grind
 ·rfl
section
variable {P:Program}{w:World}
theorem nG{t:TypeId}{n:Nat}(h:sizeT P t=some n):(sizeOf t).run P w=.ok n w:=by
 unfold sizeT at h;cases hi:P.info? t with
 |none=>rw[hi]at h;cases h
 |some i=>rw[hi]at h;simp at h;simp[sizeOf,typeInfo,hi,h]
theorem Gx{t:TypeId}{b:Bool}(h:IE P t=some b):(isAgg t).run P w=.ok b w:=by
 unfold IE at h;unfold isAgg;cases hu:P.underlying t with
 |none=>rw[hu]at h;cases h
 |some d=>
  rw[hu]at h;cases d<;>simp at h<;>subst h<;>simp[run_underlying hu]
theorem run_loadCellsFrom{b off:Nat}(u:Nat→Value):∀(n i:Nat) (acc:Array Value),(∀j,j<n→w.cell? ⟨b,off+(i+j),none⟩=some (u (i+j)))→
  (loadCellsFrom ⟨b,off,none⟩ i n acc).run P w=.ok (acc++((List.range n).map fun j=>u (i+j)).toArray) w:=by
 intro n
 induction n with
 |zero=>intro i acc _;simp[loadCellsFrom]
 |succ n ih=>
  intro i acc h;have h0:=h 0 (by omega);simp only[qAP]at h0;simp only[loadCellsFrom,yN,Sem.run_bind,run_load,h0,Result.andThen_ok];rw[ih (i+1) (acc.push (u i)) (fun j hj=>by have:=h (j+1) (by omega);rw[show i+1+j=i+(j+1)from by omega];exact this)];congr 1
  grind
end
theorem getD_drop{cs:List AV}{n j:Nat}:(cs.drop n).getD j .unk=cs.getD (n+j) .unk:=by grind
theorem Cx{P:Program}{w:World}{κ:bg}{pv:bB}{t:TypeId}{b off:Nat}{cs:List AV}{v:AV}(u:Nat→Value)
  (hc:∀j,j<cs.length→w.cell? ⟨b,off+j,none⟩=some (u j)) (hr:∀j,j<cs.length→Rel w κ pv (cs.getD j .unk) (u j)) (h:jI P t cs=some v):
  ∃x,(loadVar t ⟨b,off,none⟩).run P w=.ok x w∧Rel w κ pv v x:=by
 have hall:∀n,n≤cs.length→(loadCells ⟨b,off,none⟩ n).run P w=.ok ((List.range n).map u).toArray w:=fun n hn=>by
  have:=run_loadCellsFrom (P:=P) (w:=w) (b:=b) (off:=off) u n 0 #[] (fun j hj=>by simpa using hc j (by omega));simpa[loadCells]using this
 unfold jI at h;split at h
 ·rename_i hagg;split at h
  ·rename_i n hn;have key:n≤cs.length→∃x,(loadVar t ⟨b,off,none⟩).run P w=.ok x w∧Rel w κ pv (.agg (cs.take n)) x:=fun hle=>by
    refine⟨.agg ((List.range n).map u).toArray,by simp[loadVar,Gx hagg,nG hn,hall n hle],.agg (by simp;omega) fun j hj=>?_⟩
    grind
   grind
  ·cases h
 ·rename_i hagg;split at h
  ·cases h
  ·cases h;have h0:=hc 0 (by simp);have h1:=hr 0 (by simp);simp only[qAP]at h0;exact⟨u 0,by simp[loadVar,Gx hagg,h0],by simpa[List.getD]using h1⟩
 ·cases h
end
section
open Go
theorem wf_wrap(k:IntKind)(n:Int):rD k (k.wrap n):=by
 cases k<;>simp only[rD,IntKind.wrap,IntKind.min,IntKind.max,IntKind.signed,IntKind.bits]<;>simp<;>(try split)<;>omega
theorem anc{k:IntKind}{a:Int}(h:rD k a)(b:Int):rD k (a.tmod b):=by
 have h1:(a.tmod b).natAbs≤a.natAbs:=by rw[Int.natAbs_tmod];exact Nat.mod_le _ _
 have h2:0≤a→0≤a.tmod b:=fun h=>Int.tmod_nonneg b h;have h3:a≤0→a.tmod b≤0:=fun h=>by
  have:=Int.tmod_nonneg b (show 0≤ -a by omega)
  simp_all
 have h4:k.min≤0∧0≤k.max:=by cases k<;>decide
 unfold rD at *
 grind
def UM(P:Program)(t:TypeId):Bool:=match P.underlying t with|some (.pointer _)=>true|_=>false
def QO(P:Program)(t:TypeId):Bool:=match P.underlying t with|some .bool=>true|_=>false
def E8:AV→Option Bool
 | .nilp=>some true
 | .ptr _ _=>some false
 | .eptr _=>some false
 | .flist ns=>some ns.isEmpty
 |_=>none
def akR(op:BinOp)(k:IntKind)(a b:Int):Option AV:=match op with
 | .shl=>if 0≤b∧b≤k.bits then some (.int k (k.wrap (a*2^b.toNat)))else none
 |_=>none
def nM(P:Program)(op:BinOp)(t:TypeId):AV→AV→Option AV
 | .int k a,.int k' b=>if k=k' then(match op with
  | .add=>some (.int k (k.wrap (a+b)))
  | .sub=>some (.int k (k.wrap (a - b)))
  | .mul=>some (.int k (k.wrap (a*b)))
  | .quo=>if b=0 then none else some (.int k (k.wrap (a.tdiv b)))
  | .rem=>if b=0 then none else some (.int k (a.tmod b))
  | .eql=>some (.bool (a==b))
  | .neq=>some (.bool (a !=b))
  | .lss=>some (.bool (decide (a<b)))
  | .leq=>some (.bool (decide (a≤b)))
  | .gtr=>some (.bool (decide (b<a)))
  | .geq=>some (.bool (decide (b≤a)))
  | .shl=>if 0≤b∧b≤k.bits then some (.int k (k.wrap (a*2^b.toNat)))else none
  | .shr=>if 0≤b∧b≤k.bits then some (.int k (a.fdiv (2^b.toNat)))else none
  |_=>none)else akR op k a b
 | .str a,.str b=>match op with
  | .add=>if a.length+b.length≤9223372036854775807 then some (.str (a++b))else none
  | .eql=>some (.bool (a==b))
  | .neq=>some (.bool (!(a==b)))
  | .lss=>some (.bool (Op.bytesLess a b))
  | .leq=>some (.bool (Op.bytesLess a b ||a==b))
  | .gtr=>some (.bool (!(Op.bytesLess a b ||a==b)))
  | .geq=>some (.bool (!(Op.bytesLess a b)))
  |_=>none
 | .bool a,.bool b=>if QO P t then(match op with
  | .eql=>some (.bool (a==b))
  | .neq=>some (.bool (!(a==b)))
  |_=>none)else none
 |x,.nilp=>if UM P t then(match op,E8 x with
  | .eql,some b=>some (.bool b)
  | .neq,some b=>some (.bool (!b))
  |_,_=>none)else none
 |_,_=>none
section
variable {P:Program}{w:World}{κ:bg}{pv:bB}
theorem fG{op:BinOp}{t:TypeId}{x y:Operand}{k k':IntKind}{a b:Int}:(eqGuard op t x y (.int k a) (.int k' b)).run P w=.ok () w:=by
 unfold eqGuard;cases op<;>simp
theorem Jk{op:BinOp}{t:TypeId}{x y:Operand}{a b:ByteArray}:(eqGuard op t x y (.string a) (.string b)).run P w=.ok () w:=by
 unfold eqGuard;cases op<;>simp
theorem Hu{op:BinOp}{t:TypeId}{x y:Operand}{a b:Bool}:(eqGuard op t x y (.bool a) (.bool b)).run P w=.ok () w:=by
 unfold eqGuard;cases op<;>simp
theorem Jt{op:BinOp}{t:TypeId}{x y:Operand}{a b:Option Addr}:(eqGuard op t x y (.pointer a) (.pointer b)).run P w=.ok () w:=by
 unfold eqGuard;cases op<;>simp
theorem run_equal_bool{t:TypeId}{a b:Bool}(hu:P.underlying t=some .bool):(Op.equal t (.bool a) (.bool b)).run P w=.ok (a==b) w:=by
 have h:∀d,(Op.equalIn (d+1) t (.bool a) (.bool b)).run P w=.ok (a==b) w:=fun d=>by simp[Op.equalIn,run_underlying hu]
 exact h 9999
theorem Nw{t e:TypeId}{a:Option Addr}(hu:P.underlying t=some (.pointer e)):(Op.equal t (.pointer a) (.pointer none)).run P w=.ok a.isNone w:=by
 have h:∀d,(Op.equalIn (d+1) t (.pointer a) (.pointer none)).run P w=.ok a.isNone w:=fun d=>by cases a<;>simp[Op.equalIn,run_underlying hu]
 exact h 9999
theorem aay{x:AV}{u:Value}{b:Bool}(h:Rel w κ pv x u)(hb:E8 x=some b):∃a,u=.pointer a∧a.isNone=b:=by
 cases h<;>simp[E8]at hb<;>subst hb<;>exact⟨_,rfl,rfl⟩
theorem ap3{k:IntKind}{a:Int}(h:rD k a)(n:Nat):rD k (a.fdiv (2^n)):=by
 have h4:k.min≤0∧0≤k.max:=by cases k<;>decide
 obtain⟨h1,h2⟩:=h;have hp:(0:Int)<2^n:=Int.pow_pos (by decide);have e:a.fdiv (2^n)=a/2^n:=Int.fdiv_eq_ediv_of_nonneg _ (qCo hp);rw[e];constructor
 ·by_cases h0:0≤a
  ·exact qCI h4.1 (Int.ediv_nonneg h0 (qCo hp))
  ·refine qCI h1 ?_;refine(Int.le_ediv_iff_mul_le hp).2 ?_;have:a*2^n≤a*1:=Int.mul_le_mul_of_nonpos_left (by omega) (by omega);omega
 ·by_cases h0:0≤a
  ·exact qCI (Int.ediv_le_self _ h0) h2
  ·have:=Int.ediv_le_ediv hp (show a≤0 by omega);rw[Int.zero_ediv]at this
   grind
theorem aiC{op:BinOp}{t:TypeId}{x y:Operand}{ax ay v:AV}{ux uy:Value}(hx:Rel w κ pv ax ux)(hy:Rel w κ pv ay uy)(h:nM P op t ax ay=some v):
  ∃u,(eqGuard op t x y ux uy).run P w=.ok () w∧(binOp op t ux uy).run P w=.ok u w∧Rel w κ pv v u:=by
 unfold nM at h;split at h
 ·cases hx;cases hy;split at h
  ·rename_i hk;subst hk;rename_i k a b _ _;cases op<;>simp only[Option.some.injEq,reduceCtorEq]at h
   case add=>subst h;exact⟨_,fG,by simp[binOp,Op.intArith],.int (wf_wrap _ _)⟩
   case sub=>subst h;exact⟨_,fG,by simp[binOp,Op.intArith],.int (wf_wrap _ _)⟩
   case mul=>subst h;exact⟨_,fG,by simp[binOp,Op.intArith],.int (wf_wrap _ _)⟩
   case quo=>
    split at h
    ·cases h
    ·rename_i hb;cases h;exact⟨_,fG,by simp[binOp,Op.intDiv,hb],.int (wf_wrap _ _)⟩
   case rem=>
    split at h
    ·cases h
    ·rename_i hb;cases h;exact⟨_,fG,by simp[binOp,Op.intDiv,hb],.int (anc ‹_› b)⟩
   case eql=>subst h;exact⟨_,fG,by simp[binOp,Op.intCmp],.bool _⟩
   case neq=>subst h;exact⟨_,fG,by simp[binOp,Op.intCmp],.bool _⟩
   case lss=>subst h;exact⟨_,fG,by simp[binOp,Op.intCmp],.bool _⟩
   case leq=>subst h;exact⟨_,fG,by simp[binOp,Op.intCmp],.bool _⟩
   case gtr=>subst h;exact⟨_,fG,by simp[binOp,Op.intCmp],.bool _⟩
   case geq=>subst h;exact⟨_,fG,by simp[binOp,Op.intCmp],.bool _⟩
   case shl=>
    split at h
    ·rename_i hb;cases h;have hn:¬b<0:=by omega
     have hm:min b.toNat k.bits=b.toNat:=by omega
     exact⟨_,fG,by simp[binOp,Op.shift,hn,hm],.int (wf_wrap _ _)⟩
    ·cases h
   case shr=>
    split at h
    ·rename_i hb;cases h;have hn:¬b<0:=by omega
     have hm:min b.toNat k.bits=b.toNat:=by omega
     exact⟨_,fG,by simp[binOp,Op.shift,hn,hm],.int (ap3 ‹_› _)⟩
    ·cases h
  ·rename_i k a k' b _ _ _;cases op<;>simp only[akR,reduceCtorEq]at h;split at h
   ·rename_i hb;cases h;have hn:¬b<0:=by omega
    have hm:min b.toNat k.bits=b.toNat:=by omega
    exact⟨_,fG,by simp[binOp,Op.shift,hn,hm],.int (wf_wrap _ _)⟩
   ·cases h
 ·cases hx with
  |str ha=>cases hy with
   |str hb=>
    rename_i a b;cases op<;>simp only[Option.some.injEq,reduceCtorEq]at h
    case add=>
     split at h
     ·rename_i hl;cases h;refine⟨.string ⟨(a++b).toArray⟩,Jk,?_,.str (by simpa using hl)⟩;have e:(ByteArray.mk a.toArray).size=a.length:=by simp[ByteArray.size]
      have e':(ByteArray.mk b.toArray).size=b.length:=by simp[ByteArray.size]
      have e2:(ByteArray.mk a.toArray++ByteArray.mk b.toArray)=ByteArray.mk (a++b).toArray:=by
       apply ByteArray.ext;simp
      simp only[binOp,Op.stringOp,e,e',e2];rw[if_neg (by simp[IntKind.max,IntKind.signed,IntKind.bits];omega)];rfl
     ·cases h
    all_goals(subst h;exact⟨_,Jk,by simp[binOp,Op.stringOp],.bool _⟩)
 ·cases hx;cases hy;split at h
  ·rename_i hb;have hu:P.underlying t=some .bool:=by unfold QO at hb;split at hb<;>first|assumption|cases hb
   cases op<;>simp only[Option.some.injEq,reduceCtorEq]at h
   case eql=>subst h;exact⟨_,Hu,by simp[binOp,run_equal_bool hu],.bool _⟩
   case neq=>subst h;exact⟨_,Hu,by simp[binOp,run_equal_bool hu],.bool _⟩
  ·cases h
 ·cases hy;split at h
  ·rename_i hb;obtain⟨e,hu⟩:∃e,P.underlying t=some (.pointer e):=by unfold UM at hb;split at hb<;>first|exact⟨_,by assumption⟩|cases hb
   split at h
   ·rename_i b hn;cases h;obtain⟨a,rfl,ha⟩:=aay hx hn;exact⟨.bool b,Jt,by simp[binOp,Nw hu,ha],.bool _⟩
   ·rename_i b hn;cases h;obtain⟨a,rfl,ha⟩:=aay hx hn;exact⟨.bool !b,Jt,by simp[binOp,Nw hu,ha],.bool _⟩
   ·cases h
  ·cases h
 ·cases h
end
end
section
open Go
def eD:AV→Option (List AV)
 | .agg cs=>some cs
 | .unk=>none
 | .tup _=>none
 |v=>some [v]
def kR(place:Nat→Option (Nat×Nat)):List AV→List (Nat×AV)→Option (List AV)
 |cells,[]=>some cells
 |cells,(i,v)::rest=>match place i,eD v with
  |some (off,size),some cs=>if cs.length=size∧off+size≤cells.length then kR place (cells.take off++cs++cells.drop (off+size)) rest else none
  |_,_=>none
def Al(P:Program)(t:TypeId)(i:Nat):Option (Nat×Nat):=
 match P.underlying t with
 |some (.struct fs)=>(fs[i]?).bind fun f=>(sizeT P f.type).map fun n=>(f.offset,n)
 |_=>none
def kU(P:Program)(t:TypeId):Option (List AV):=(P.info? t).bind fun i=>i.zero.map fun z=>z.cells.toList.map ofConst
def wR(P:Program)(t:TypeId):Bool:=match P.underlying t with|some (.struct fs)=>fs.toList.all fun f=>(P.info? f.type).isSome|_=>false
def eB(v:Option AV)(dflt top:Nat):Option Nat:=
 match v with
 |none=>some dflt
 |some (.int _ n)=>if 0≤n∧n≤top then some n.toNat else none
 |some _=>none
def vW:List (List AV)→Option (List UInt8)
 |[]=>some []
 |e::r=>match e with
  |[.int .u8 n]=>(vW r).map (UInt8.ofNat n.toNat::·)
  |_=>none
def Qj(P:Program)(s t:TypeId):Bool:=
 match P.underlying s,P.underlying t with
 |some (.slice e),some .string=>(match P.underlying e with|some (.int .u8)=>true|_=>false)
 |_,_=>false
def TF(P:Program)(t:TypeId):Option Nat:=match P.underlying t with|some (.array _ e)=>sizeT P e|_=>none
def VZ(P:Program)(t:TypeId)(n:Int)(cs:List AV):Option AV:=match P.underlying t with
 |some (.array len e)=>match sizeT P e with
  |some sz=>if 0≤n∧n<len then jI P e (cs.drop (n.toNat*sz))else none
  |none=>none
 |_=>none
def aM(P:Program)(op:Op)(ρ:Operand→AV):Option AV:=
 match op with
 | .move x=>some (ρ x)
 | .assign x=>some (ρ x)
 | .pick c x y=>match ρ c with
  | .bool t=>some (if t then ρ x else ρ y)
  |_=>none
 | .nilCheck x=>match ρ x with
  | .ptr l o=>some (.ptr l o)
  | .eptr cs=>some (.eptr cs)
  | .func f cs=>some (.func f cs)
  | .flist (cs::r)=>some (.eptr (cs++[.flist r]))
  |_=>none
 | .binOp op t x y _=>nM P op t (ρ x) (ρ y)
 | .unOp op _ x=>match op,ρ x with
  | .not,.bool b=>some (.bool (!b))
  | .neg,.int k n=>some (.int k (k.wrap (0 - n)))
  |_,_=>none
 | .fieldAddr s x f=>match xO P s f with
  |some (fo,_)=>match ρ x with
   | .ptr l o=>some (.ptr l (o+fo))
   | .eptr cs=>some (.eptr (cs.drop fo))
   |_=>none
  |none=>none
 | .field s x f=>match xO P s f with
  |some (fo,t)=>match ρ x with
   | .agg cs=>jI P t (cs.drop fo)
   |_=>none
  |none=>none
 | .indexAddr t x i=>match ρ i with
  | .int _ n=>match P.underlying t with
   |some (.slice e)=>match ρ x,sizeT P e with
    | .slice es _,some sz=>if 0≤n∧n<es.length∧(es.getD n.toNat []).length=sz then some (.eptr (es.getD n.toNat []))else none
    | .psl l z len,some sz=>if 0≤n∧n<len∧z=sz then some (.ptr l (n.toNat*sz))else none
    |_,_=>none
   |some (.array len e)=>match ρ x,sizeT P e with
    | .ptr l o,some sz=>if 0≤n∧n<len then some (.ptr l (o+n.toNat*sz))else none
    | .eptr cs,some sz=>if 0≤n∧n<len then some (.eptr (cs.drop (n.toNat*sz)))else none
    |_,_=>none
   |_=>none
  |_=>none
 | .index t x i=>match ρ i,ρ x with
  | .int _ n,.str s=>if isStrT P t∧0≤n∧n<s.length then some (.int .u8 (s.getD n.toNat 0).toNat)else none
  | .int _ n,.agg cs=>VZ P t n cs
  |_,_=>none
 | .extract x i=>match ρ x with
  | .tup vs=>if i<vs.length then some (vs.getD i .unk)else none
  |_=>none
 | .slice t x lo hi none=>match ρ x with
  | .str s=>if isStrT P t then(match eB (hi.map ρ) s.length s.length with
   |some h=>match eB (lo.map ρ) 0 h with
    |some l=>some (.str ((s.drop l).take (h - l)))
    |none=>none
   |none=>none)else none
  | .slice es _=>match sliceT P t with
   |some sz=>match eB (hi.map ρ) es.length es.length with
    |some h=>match eB (lo.map ρ) 0 h with
     |some l=>if l<es.length→(es.getD l []).length=sz then some (.slice ((es.drop l).take (h - l)) .shared)else none
     |none=>none
    |none=>none
   |none=>none
  | .psl l z n=>match sliceT P t,lo with
   |some _,none=>match eB (hi.map ρ) n n with
    |some h=>some (.psl l z h)
    |none=>none
   |_,_=>none
  |_=>none
 | .build t parts=>if wR P t then(match kU P t with
  |some z=>(kR (Al P t) z (parts.toList.map fun p=>(p.1,ρ p.2))).map .agg
  |none=>none)else(match TF P t,kU P t with
  |some sz,some z=>(kR (fun i=>some (i*sz,sz)) z (parts.toList.map fun p=>(p.1,ρ p.2))).map .agg
  |_,_=>none)
 | .makeFunc (.func f) first captured=>if first.size=0 then some (.func f (captured.toList.map ρ))else none
 | .load t x=>match ρ x with
  | .eptr cs=>jI P t cs
  |_=>none
 | .convert s t x=>match ρ x,convT P s t with
  | .int _ n,some k=>some (.int k (k.wrap n))
  | .slice es _,none=>if Qj P s t then(vW es).map .str else none
  |_,_=>none
 | .call {callee:=.builtin .len,args,argTypes}=>match args.toList,argTypes.toList with
  |[x],[t]=>match ρ x with
   | .str s=>if isStrT P t then some (.int .i64 s.length)else none
   | .slice es _=>if(sliceT P t).isSome then some (.int .i64 es.length)else none
   | .psl _ _ n=>if(sliceT P t).isSome then some (.int .i64 n)else none
   |_=>none
  |_,_=>none
 | .call {callee:=.builtin .max,args,argTypes:=_}=>match args.toList with
  |[x,y]=>match ρ x,ρ y with
   | .int k a,.int k' b=>if k=k' then some (.int k (if b>a then b else a))else none
   |_,_=>none
  |_=>none
 | .call {callee:=.builtin .min,args,argTypes:=_}=>match args.toList with
  |[x,y]=>match ρ x,ρ y with
   | .int k a,.int k' b=>if k=k' then some (.int k (if b<a then b else a))else none
   |_,_=>none
  |_=>none
 |_=>none
where
 isStrT (P:Program) (t:TypeId):Bool:=match P.underlying t with|some .string=>true|_=>false
 sliceT (P:Program) (t:TypeId):Option Nat:=match P.underlying t with|some (.slice e)=>sizeT P e|_=>none
 convT (P:Program) (s t:TypeId):Option IntKind:=match P.underlying s,P.underlying t with|some (.int _),some (.int k)=>some k|_,_=>none
end
section
open Go
section
variable {P:Program}{w:World}{κ:bg}{pv:bB}
theorem R7{s f fo t:Nat}(h:xO P s f=some (fo,t)):∃fs fld,P.underlying s=some (.struct fs)∧fs[f]? =some fld∧fld.offset=fo∧fld.type=t∧∃n,sizeT P t=some (n+1):=by
 unfold xO at h
 grind
theorem RY{s f fo t b off:Nat}(h:xO P s f=some (fo,t)):(Instr.fieldAt s (.pointer (some ⟨b,off,none⟩)) f).run P w=.ok (.pointer (some ⟨b,off+fo,none⟩)) w:=by
 obtain⟨fs,fld,hu,hf,rfl,rfl,n,hn⟩:=R7 h;simp[Instr.fieldAt,run_underlying hu,hf,Instr.sureAddr,fieldPlace,nG hn,yN]
theorem Wt{s f:Nat}{x v:AV}{u:Value}(h:(match xO P s f with|some (fo,_)=>(match x with| .ptr l o=>some (AV.ptr l (o+fo))| .eptr cs=>some (.eptr (cs.drop fo))|_=>none)|none=>none)=some v)(hx:Rel w κ pv x u):
  ∃y,(Instr.fieldAt s u f).run P w=.ok y w∧Rel w κ pv v y:=by
 split at h
 ·rename_i fo t hft;cases hx with
  |ptr hl=>cases h;exact⟨_,RY hft,.ptr hl⟩
  |eptr y h1 h2 h3=>
   cases h;refine⟨_,RY hft,.eptr (fun j=>y (fo+j)) ?_ ?_ ?_⟩
   ·intro j hj;simp at hj;rw[qBx];exact h1 _ (by omega)
   ·grind
   grind
  |_=>cases h
 ·cases h
theorem ZW{t fo:Nat}{cs:List AV}{vs:List Value}{v:AV}(hl:vs.length=cs.length)(hr:∀j,j<cs.length→Rel w κ pv (cs.getD j .unk) (vs.getD j undef))(h:jI P t (cs.drop fo)=some v):
  ∃y,(part t vs.toArray fo).run P w=.ok y w∧Rel w κ pv v y:=by
 unfold jI at h;have key:∀n,IE P t=some true→sizeT P t=some n→n≤(cs.drop fo).length→∃y,(part t vs.toArray fo).run P w=.ok y w∧Rel w κ pv (.agg ((cs.drop fo).take n)) y:=fun n ha hn hle=>by
  refine⟨.agg ((vs.drop fo).take n).toArray,?_,.agg ?_ ?_⟩
  ·simp[part,Gx ha,nG hn]
  ·grind
  grind
 split at h
 ·grind
 ·rename_i ha;split at h
  ·cases h
  ·rename_i c r hc;cases h;have hlt:fo<cs.length:=by
    grind
   have e:=hr fo hlt;have hv:cs.getD fo .unk=v:=by
    have:cs.drop fo=v::r:=hc;have h2:=List.getElem?_drop (xs:=cs) (i:=fo) (j:=0)
    grind
   rw[hv]at e;obtain⟨y,hy⟩:∃y,vs[fo]? =some y:=⟨_,qAe (show fo<vs.length by omega)⟩;have ey:vs.getD fo undef=y:=by rw[List.getD,hy];rfl
   rw[ey]at e;exact⟨y,by simp[part,Gx ha,hy],e⟩
 ·cases h
theorem afh{s f:Nat}{x v:AV}{u:Value}(h:(match xO P s f with|some (fo,t)=>(match x with| .agg cs=>jI P t (cs.drop fo)|_=>none)|none=>none)=some v)(hx:Rel w κ pv x u):
  ∃y,(Instr.field s u f).run P w=.ok y w∧Rel w κ pv v y:=by
 split at h
 ·rename_i fo t hft;cases hx with
  |agg hl hr=>
   obtain⟨fs,fld,hu,hf,rfl,rfl,n,hn⟩:=R7 hft;obtain⟨y,h1,h2⟩:=ZW hl hr h;exact⟨y,by simp[Instr.field,run_underlying hu,hf,asAgg,h1],h2⟩
  |_=>cases h
 ·cases h
theorem O5{t:Nat}(h:aM.isStrT P t=true):P.underlying t=some .string:=by
 unfold aM.isStrT at h;split at h<;>first|assumption|cases h
theorem Ez{t n:Nat}(h:aM.sliceT P t=some n):∃e,P.underlying t=some (.slice e)∧sizeT P e=some n:=by
 unfold aM.sliceT at h;split at h<;>first|exact⟨_,by assumption,h⟩|cases h
theorem size_mk(s:List UInt8):(ByteArray.mk s.toArray).size=s.length:=by simp[ByteArray.size]
theorem ZI{v:Option Value}{av:Option AV}{top d n:Nat}{code:BoundsCode}(hv:match av,v with|none,none=>True|some x,some u=>Rel w κ pv x u|_,_=>False)(h:eB av d top=some n):
  (match v with|some u=>Instr.sliceBound u top code|none=>pure d).run P w=.ok n w:=by
 unfold eB at h;split at h
 ·cases h;cases v with
  |none=>simp
  |some u=>exact hv.elim
 ·rename_i k m;split at h
  ·rename_i hb;cases h;cases v with
   |none=>exact hv.elim
   |some u=>
    cases(hv:Rel w κ pv _ u);simp[Instr.sliceBound,asIntOf,hb]
  ·cases h
 ·cases h
theorem BX{isS:Bool}{len cap l h:Nat}{lo hi:Option Value}{alo ahi:Option AV}
  (hlo:match alo,lo with|none,none=>True|some x,some u=>Rel w κ pv x u|_,_=>False)
  (hhi:match ahi,hi with|none,none=>True|some x,some u=>Rel w κ pv x u|_,_=>False) (hc:len≤cap) (h1:eB ahi len len=some h) (h2:eB alo 0 h=some l):
  (Instr.sliceBounds isS len cap lo hi none).run P w=.ok (l,h,cap) w∧l≤h∧h≤len:=by
 have e1:eB ahi len cap=some h:=by
  unfold eB at h1⊢
  grind
 have b1:=ZI (P:=P) (code:=if isS then BoundsCode.sliceAcap else BoundsCode.sliceAlen) hhi e1;have b2:=ZI (P:=P) (code:=BoundsCode.sliceB) hlo h2;have hle:l≤h:=by
  unfold eB at h2
  grind
 have hle2:h≤len:=by
  unfold eB at h1
  grind
 refine⟨?_,hle,hle2⟩;cases lo<;>cases hi<;>simp[Instr.sliceBounds]at b1 b2⊢<;>simp[b1,b2]
end
end
section
open Go
theorem akQ(l:List Value):∀(k off:Nat) (c:Array Value),off+k+l.length≤c.size→
  ((l.zipIdx k).foldl (fun cs p=>cs.setIfInBounds (off+p.2) p.1) c).size=c.size∧
  ∀i,((l.zipIdx k).foldl (fun cs p=>cs.setIfInBounds (off+p.2) p.1) c).getD i undef=if off+k≤i∧i<off+k+l.length then l.getD (i - (off+k)) undef else c.getD i undef:=by
 induction l with
 |nil=>intro k off c _;refine⟨by simp,fun i=>?_⟩;rw[if_neg (by simp<;>omega)];simp
 |cons x l ih=>
  intro k off c h;simp only[qAv]at h;obtain⟨h1,h2⟩:=ih (k+1) off (c.setIfInBounds (off+k) x) (by simp;omega);simp only[List.zipIdx_cons,qBm];refine⟨by rw[h1];simp,fun i=>?_⟩;rw[h2 i];by_cases e1:off+(k+1)≤i∧i<off+(k+1)+l.length
  ·grind
  ·rw[if_neg e1];by_cases e2:i=off+k
   ·subst e2;rw[lY (by omega),if_pos (by simp)]
    grind
   ·rw[jK (by omega),if_neg (by simp;omega)]
section
variable {P:Program}{w:World}{κ:bg}{pv:bB}
theorem Fg{v:AV}{u:Value}{cs:List AV}(h:Rel w κ pv v u)(hc:eD v=some cs):u.cells.size=cs.length∧∀j,j<cs.length→Rel w κ pv (cs.getD j .unk) (u.cells.getD j undef):=by
 cases h with
 |agg h1 h2=>
  cases hc;exact⟨by simpa[Value.cells]using h1,fun j hj=>by simpa[Value.cells,qAh,List.getD]using h2 j hj⟩
 |unk=>cases hc
 |tup=>cases hc
 |_=>
  cases hc;refine⟨by simp[Value.cells],fun j hj=>?_⟩;simp at hj;obtain rfl:j=0:=by omega
  first
   |exact .int ‹_›|exact .bool _|exact .str ‹_›|exact .nilp|exact .ifc _ _|exact .ptr ‹_›|exact .eptr _ ‹_› ‹_› ‹_›|exact .slice _ _ _ _ ‹_› ‹_› ‹_› ‹_› ‹_› ‹_› ‹_› ‹_›|exact .func ‹_› ‹_›|exact .mapr ‹_›|exact .psl ‹_› ‹_› ‹_›|exact .flnil|exact .flcons _ _ ‹_› ‹_› ‹_› ‹_› ‹_›|exact .nilFunc|exact .yv _
theorem LX{place:Nat→Option (Nat×Nat)}:∀(parts:List (Nat×AV)) (cparts:List (Nat×Value)) (cs out:List AV) (c:Array Value),
  parts.length=cparts.length→(∀j,j<parts.length→(parts.getD j (0,.unk)).1=(cparts.getD j (0,undef)).1∧Rel w κ pv (parts.getD j (0,.unk)).2 (cparts.getD j (0,undef)).2)→
  c.size=cs.length→(∀j,j<cs.length→Rel w κ pv (cs.getD j .unk) (c.getD j undef))→kR place cs parts=some out→
  ∃c',Instr.fill place c cparts=some c'∧c'.size=out.length∧∀j,j<out.length→Rel w κ pv (out.getD j .unk) (c'.getD j undef):=by
 intro parts
 induction parts with
 |nil=>
  intro cparts cs out c hl _ hsz hr h;cases cparts with
  |nil=>simp only[kR,Option.some.injEq]at h;subst h;exact⟨c,rfl,hsz,hr⟩
  |cons=>simp at hl
 |cons p parts ih=>
  intro cparts cs out c hl hp hsz hr h;cases cparts with
  |nil=>simp at hl
  |cons q cparts=>
   obtain⟨i,v⟩:=p;obtain⟨i',u⟩:=q;have h0:=hp 0 (by simp);simp only[List.getD,qAp,qAi]at h0;obtain⟨rfl,hv⟩:=h0;simp only[kR]at h;split at h
   ·rename_i off size vs hpl hvc;split at h
    ·rename_i hcond;obtain⟨e1,e2⟩:=hcond;obtain⟨hu1,hu2⟩:=Fg hv hvc;have hf:=akQ u.cells.toList 0 off c (by simp;omega);simp only[qAP,qBK]at hf;obtain⟨hs1,hs2⟩:=hf;have hlen:(cs.take off++vs++cs.drop (off+size)).length=cs.length:=by simp;omega
     have:=ih cparts _ out ((u.cells.toList.zipIdx 0).foldl (fun cs p=>cs.setIfInBounds (off+p.2) p.1) c) (by simpa using hl)
      (fun j hj=>by have:=hp (j+1) (by simpa using hj);simpa[List.getD]using this) (by rw[hs1,hsz,hlen]) ?_ h
     ·obtain⟨c',h1,h2,h3⟩:=this;refine⟨c',?_,h2,h3⟩;have hfold:u.cells.zipIdx.foldl (fun cs (c,j)=>cs.setIfInBounds (off+j) c) c=(u.cells.toList.zipIdx 0).foldl (fun cs p=>cs.setIfInBounds (off+p.2) p.1) c:=by
       rw[←Array.foldl_toList];simp
      simp only[Instr.fill,hpl];rw[if_neg (by simp;omega)];rw[hfold];exact h1
     ·intro j hj;rw[hlen]at hj;rw[hs2 j];by_cases ej:off≤j∧j<off+u.cells.size
      ·rw[if_pos ej];have:=hu2 (j - off) (by omega);have e3:(cs.take off++vs++cs.drop (off+size)).getD j .unk=vs.getD (j - off) .unk:=by
        simp only[List.getD];rw[qAN,qAm (by simp;omega),qAf (by simp;omega)];simp[show min off cs.length=off by omega]
       rw[e3];simpa[qAh,List.getD]using this
      ·rw[if_neg ej];have e3:(cs.take off++vs++cs.drop (off+size)).getD j .unk=cs.getD j .unk:=by
        simp only[List.getD];by_cases hlt:j<off
        ·rw[qAN,qAf (by simp;omega)];simp[qAW,hlt]
        ·rw[qAm (by simp;omega)];simp only[qAl,qBd,List.getElem?_drop];congr 2;omega
       rw[e3];exact hr j hj
    ·cases h
   ·cases h
end
end
section
open Go
section
variable {P:Program}{w:World}{κ:bg}{pv:bB}
theorem Jo{t e sz n b off:Nat}{k:IntKind}{m:Int}{len cap:Nat}(hu:P.underlying t=some (.slice e))(hs:sizeT P e=some sz)(h0:0≤m)(h1:m<len)(hn:m.toNat=n):
  (Instr.indexAt t (.slice (some ⟨b,off,none⟩) len cap) (.int k m)).run P w=.ok (.pointer (some ⟨b,off+n*sz,none⟩)) w:=by
 subst hn;simp[Instr.indexAt,asIntOf,run_underlying hu,h0,h1,nG hs,yN]
theorem JB{t e sz n b off len:Nat}{k:IntKind}{m:Int}(hu:P.underlying t=some (.array len e))(hs:sizeT P e=some sz)(h0:0≤m)(h1:m<len)(hn:m.toNat=n):
  (Instr.indexAt t (.pointer (some ⟨b,off,none⟩)) (.int k m)).run P w=.ok (.pointer (some ⟨b,off+n*sz,none⟩)) w:=by
 subst hn;simp[Instr.indexAt,asIntOf,run_underlying hu,Instr.sureAddr,h0,h1,nG hs,yN]
theorem Wn{t:Nat}{x i v:AV}{u ui:Value}(hx:Rel w κ pv x u)(hi:Rel w κ pv i ui)(h:aM P (.indexAddr t (.tmp 0) (.tmp 1)) (fun o=>match o with| .tmp 0=>x|_=>i)=some v):
  ∃y,(Instr.indexAt t u ui).run P w=.ok y w∧Rel w κ pv v y:=by
 simp only[aM]at h;cases hi with
 |@int k n hwf=>
  simp only at h;split at h
  ·rename_i e hu;cases hs:sizeT P e with
   |none=>rw[hs]at h;cases hx<;>cases h
   |some sz=>
    rw[hs]at h;cases hx with
    |@slice es tag a cap b off sz' f h1 h2 h3 h3' h4 h5 h6 ht=>
     dsimp only at h;split at h
     ·rename_i hc;cases h;obtain⟨c0,c1,c2⟩:=hc;have hlt:n.toNat<es.length:=by omega
      have esz:sz'=sz:=by rw[←h1 _ hlt];exact c2
      subst esz;have ha:=h2 (by intro hnil;subst hnil;simp at hlt);subst ha;refine⟨_,Jo hu hs c0 c1 rfl,.eptr (f n.toNat) ?_ ?_ ?_⟩
      ·intro j hj;rw[qBx];exact h4 _ _ hlt (by omega)
      ·intro j hj;rw[qBx];exact h5 _ _ hlt (by omega)
      ·intro j hj;exact h6 _ _ hlt (by omega)
     ·cases h
    |@psl l z len cap a hc1 hc2 ht=>
     dsimp only at h;split at h
     ·rename_i hc;cases h;obtain⟨c0,c1,rfl⟩:=hc;obtain⟨_,⟨_,hcap⟩|⟨b,c,e,hb,ha,_,_⟩⟩:=ht
      ·omega
      ·subst ha;refine⟨_,Jo hu hs c0 c1 rfl,?_⟩;rw[qAw];exact .ptr hb
     ·cases h
    |_=>cases h
  ·rename_i len e hu;cases hs:sizeT P e with
   |none=>rw[hs]at h;cases hx<;>cases h
   |some sz=>
    rw[hs]at h;cases hx with
    |ptr hl=>
     dsimp only at h;split at h
     ·rename_i hc;cases h;exact⟨_,JB hu hs hc.1 hc.2 rfl,.ptr hl⟩
     ·cases h
    |eptr f h1 h2 h3=>
     dsimp only at h;split at h
     ·rename_i hc;cases h;refine⟨_,JB hu hs hc.1 hc.2 rfl,.eptr (fun j=>f (n.toNat*sz+j)) ?_ ?_ ?_⟩
      ·intro j hj;simp at hj;rw[qBx];exact h1 _ (by omega)
      ·intro j hj;simp at hj;rw[qBx];exact h2 _ (by omega)
      ·intro j hj;simp at hj;rw[getD_drop];exact h3 _ (by omega)
     ·cases h
    |_=>cases h
  ·cases h
 |_=>cases h
theorem aeR{t:Nat}{x i v:AV}{u ui:Value}(h:(match i,x with
  | .int _ n,.str s=>if aM.isStrT P t∧0≤n∧n<s.length then some (AV.int .u8 (s.getD n.toNat 0).toNat)else none
  | .int _ n,.agg cs=>VZ P t n cs
  |_,_=>none)=some v) (hx:Rel w κ pv x u) (hi:Rel w κ pv i ui):∃y,(Instr.index t u ui).run P w=.ok y w∧Rel w κ pv v y:=by
 cases hi with
 |int hwf=>cases hx with
  |str hl=>
   rename_i k n s;simp only at h;split at h
   ·rename_i hc;cases h;obtain⟨c0,c1,c2⟩:=hc;refine⟨.int .u8 (s.getD n.toNat 0).toNat,?_,.int ?_⟩
    ·have hlt:n.toNat<s.length:=by omega
     have e:(ByteArray.mk s.toArray)[n.toNat]? =some (s.getD n.toNat 0):=by
      have h1:n.toNat<(ByteArray.mk s.toArray).size:=by rw[size_mk];exact hlt
      rw[getElem?_pos (ByteArray.mk s.toArray) n.toNat h1];simp only[List.getD,qAe hlt,qAi];rfl
     simp[Instr.index,asIntOf,run_underlying (O5 c0),c1,e]
    ·have:=(s.getD n.toNat 0).toNat_lt;generalize (s.getD n.toNat 0).toNat=m at *;simp only[rD,IntKind.min,IntKind.max,IntKind.signed,IntKind.bits];simp;omega
   ·cases h
  |agg hl hr=>
   simp only[VZ]at h;split at h
   ·rename_i len e hu;split at h
    ·rename_i sz hs;split at h
     ·rename_i hc;obtain⟨y,h1,h2⟩:=ZW hl hr h;exact⟨y,by simp[Instr.index,asIntOf,run_underlying hu,hc.1,hc.2,nG hs,h1],h2⟩
     ·cases h
    ·cases h
   ·cases h
  |_=>cases h
 |_=>cases hx<;>cases h
theorem aeD{t l h' sz:Nat}{es:List (List AV)}{tag:Tag}{a:Option Addr}{len cap:Nat}(hx:Rel w κ pv (.slice es tag) (.slice a len cap))(hsz:aM.sliceT P t=some sz)(hle:l≤h')(hle2:h'≤es.length)
  (hc:l<es.length→(es.getD l []).length=sz):
  Rel w κ pv (.slice ((es.drop l).take (h' - l)) .shared) (.slice (if cap=l then a else a.map (·.add (l*sz))) (h' - l) (cap - l)):=by
 cases hx with
 |slice b off sz' f h1 h2 h3 h3' h4 h5 h6 ht=>
  have hlen:((es.drop l).take (h' - l)).length=h' - l:=by simp;omega
  have hidx:∀i,i<h' - l→((es.drop l).take (h' - l)).getD i []=es.getD (l+i) []:=fun i hi=>by simp[hi]
  have:=Rel.slice (w:=w) (κ:=κ) (pv:=pv) (es:=(es.drop l).take (h' - l)) (tag:=.shared) (a:=if cap=l then a else a.map (·.add (l*sz))) (cap:=cap - l) b (off+l*sz') sz' (fun i j=>f (l+i) j)
   (fun i hi=>by rw[hlen]at hi;rw[hidx i hi];exact h1 _ (by omega))
   (fun hne=>by
    have hpos:0<h' - l:=by rw[←hlen];exact qBL.2 hne
    rw[if_neg (by omega),h2 (by intro e;subst e;simp at hle2;omega),qAt,yN];have:sz'=sz:=by rw[←h1 l (by omega)];exact hc (by omega)
    rw[this])
   (by rw[hlen];omega) (by rw[hlen];omega)
   (fun i j hi hj=>by rw[hlen]at hi;have:=h4 (l+i) j (by omega) hj;rw[qAD]at this;rw[show off+l*sz'+(i*sz'+j)=off+(l*sz'+i*sz'+j)from by omega];exact this)
   (fun i j hi hj=>by rw[hlen]at hi;have:=h5 (l+i) j (by omega) hj;rw[qAD]at this;rw[show off+l*sz'+(i*sz'+j)=off+(l*sz'+i*sz'+j)from by omega];exact this)
   (fun i j hi hj=>by rw[hlen]at hi;rw[hidx i hi];exact h6 (l+i) j (by omega) hj) trivial
  grind
theorem Py{ρ:Operand→AV}{ev:Operand→Value}(hρ:∀x,Rel w κ pv (ρ x) (ev x))(o:Option Operand):(match o.map ρ,o.map ev with|none,none=>True|some x,some u=>Rel w κ pv x u|_,_=>False):=by
 cases o with
 |none=>trivial
 |some x=>exact hρ x
end
end
section
open Go
section
variable {P:Program}{w:World}{κ:bg}{pv:bB}
theorem ahY{s t:Nat}{k:IntKind}(h:aM.convT P s t=some k):∃k',P.underlying s=some (.int k')∧P.underlying t=some (.int k):=by
 unfold aM.convT at h
 grind
theorem run_places{fs:Array Field}{places:Array (Nat×Nat)}(h:∀i:Nat,(fs[i]?).map (fun f=>(sizeT P f.type).map fun n=>(f.offset,n))=(places[i]?).map some)(hs:fs.size=places.size):
  (fs.mapM fun(f:Field)=>do pure (f.offset,←sizeOf f.type):Sem (Array (Nat×Nat))).run P w=.ok places w:=by
 have key:∀(l:List Field) (ps:List (Nat×Nat)),l.length=ps.length→(∀i:Nat,(l[i]?).map (fun f=>(sizeT P f.type).map fun n=>(f.offset,n))=(ps[i]?).map some)→
   (l.mapM fun(f:Field)=>do pure (f.offset,←sizeOf f.type):Sem (List (Nat×Nat))).run P w=.ok ps w:=by
  intro l
  induction l with
  |nil=>intro ps hl _;cases ps with|nil=>simp|cons=>simp at hl
  |cons f l ih=>
   intro ps hl hp;cases ps with
   |nil=>simp at hl
   |cons q ps=>
    have h0:=hp 0;simp only[qAp,qAt]at h0;cases hsz:sizeT P f.type with
    |none=>rw[hsz]at h0;cases h0
    |some n=>
     rw[hsz]at h0;simp at h0;have:=ih ps (by simpa using hl) (fun i=>by simpa using hp (i+1));rw[List.mapM_cons];simp only[Sem.run_bind,nG hsz,Result.andThen_ok,Sem.run_pure,this,h0]
 have:=key fs.toList places.toList (by simpa using hs) (fun i=>by simpa using h i);rw[qBF]
 simp_all
theorem afq{t:Nat}{ρ:Operand→AV}{ev:Operand→Value}{parts:Array (Nat×Operand)}{z cs:List AV}(hρ:∀x,Rel w κ pv (ρ x) (ev x))(hst:wR P t=true)(hz:kU P t=some z)
  (h:kR (Al P t) z (parts.toList.map fun p=>(p.1,ρ p.2))=some cs):∃y,(Instr.build t (parts.map fun p=>(p.1,ev p.2))).run P w=.ok y w∧Rel w κ pv (.agg cs) y:=by
 unfold wR at hst;split at hst
 ·rename_i fs hu;unfold kU at hz;cases hi:P.info? t with
  |none=>rw[hi]at hz;cases hz
  |some i=>
   rw[hi]at hz;simp only[qAb]at hz;cases hzv:i.zero with
   |none=>rw[hzv]at hz;cases hz
   |some zv=>
    rw[hzv]at hz;simp at hz;subst hz;have hall:∀f∈fs.toList,(P.info? f.type).isSome:=fun f hf=>qAC.1 hst f hf
    let places:Array (Nat×Nat):=(fs.toList.map fun f=>(f.offset,(sizeT P f.type).getD 0)).toArray
    have hsz:∀f∈fs.toList,sizeT P f.type=some ((sizeT P f.type).getD 0):=fun f hf=>by
     have:=hall f hf;unfold sizeT;cases hx:P.info? f.type with
     |none=>rw[hx]at this;cases this
     |some x=>rfl
    have hplace:∀i:Nat,Al P t i=places[i]?:=fun i=>by
     simp only[Al]
     grind
    have hrun:=run_places (P:=P) (w:=w) (fs:=fs) (places:=places) (fun i=>by
     rw[←hplace i];simp only[Al,hu];rw[←qCi];cases hf:fs.toList[i]? with
     |none=>simp
     |some f=>simp;rw[hsz f (qAJ hf)];rfl) (by simp[places])
    have hf:=LX (w:=w) (κ:=κ) (pv:=pv) (place:=fun i=>places[i]?) (parts.toList.map fun p=>(p.1,ρ p.2)) (parts.toList.map fun p=>(p.1,ev p.2)) (zv.cells.toList.map ofConst) cs zv.cells (by simp)
     (fun j hj=>by
      simp at hj;simp only[List.getD,qAF,qAe hj,qAt,qAi];exact⟨trivial,hρ _⟩) (by simp)
     (fun j hj=>by
      simp at hj;have:(zv.cells.toList.map ofConst).getD j .unk=ofConst (zv.cells.getD j undef):=by
       simp_all
      rw[this];exact uO _)
     (by
      have e:Al P t=fun i=>places[i]?:=funext hplace;rw[←e];exact h)
    obtain⟨c',h1,h2,h3⟩:=hf;refine⟨.agg c',?_,?_⟩
    ·have e:(parts.map fun p=>(p.1,ev p.2)).toList=parts.toList.map fun p=>(p.1,ev p.2):=by simp
     simp only[Instr.build,zeroValue,typeInfo,Sem.run_bind,run_underlying hu]
     simp_all
    ·have e:c'=c'.toList.toArray:=by simp
     rw[e];refine .agg (by simpa using h2) fun j hj=>?_;have:=h3 j hj;simpa[qAh,List.getD]using this
 ·cases hst
theorem Rel.vC{k:IntKind}{n:Int}{u:Value}(h:Rel w κ pv (.int k n) u):u=.int k n∧rD k n:=by cases h;exact⟨rfl,‹_›⟩
theorem Rel.Ec{b:Bool}{u:Value}(h:Rel w κ pv (.bool b) u):u=.bool b:=by cases h;rfl
theorem Rel.Eh{s:List UInt8}{u:Value}(h:Rel w κ pv (.str s) u):u=.string ⟨s.toArray⟩∧s.length≤9223372036854775807:=by cases h;exact⟨rfl,‹_›⟩
theorem Rel.tN{l o:Nat}{u:Value}(h:Rel w κ pv (.ptr l o) u):∃b,u=.pointer (some ⟨b,o,none⟩)∧at? κ l=some b:=by cases h;exact⟨_,rfl,‹_›⟩
theorem Rel.ac2{cs:List AV}{u:Value}(h:Rel w κ pv (.eptr cs) u):∃(b off:Nat) (y:Nat→Value),u=.pointer (some ⟨b,off,none⟩)∧(∀j,j<cs.length→¬pv b (off+j))∧(∀j,j<cs.length→w.cell? ⟨b,off+j,none⟩=some (y j))∧
  (∀j,j<cs.length→Rel w κ pv (cs.getD j .unk) (y j)):=by cases h with|eptr y h1 h2 h3=>exact⟨_,_,y,rfl,h1,h2,h3⟩
theorem Rel.jL{es:List (List AV)}{t:Tag}{u:Value}(h:Rel w κ pv (.slice es t) u):∃a cap,u=.slice a es.length cap∧es.length≤cap∧es.length≤9223372036854775807:=by
 cases h with|slice _ _ _ _ _ _ h3 h4 _ _ _ _=>exact⟨_,_,rfl,h3,h4⟩
theorem Rel.xI{f:Nat}{cs:List AV}{u:Value}(h:Rel w κ pv (.func f cs) u):∃vs:List Value,u=.func (.func f) #[] vs.toArray∧vs.length=cs.length∧∀j,j<cs.length→Rel w κ pv (cs.getD j .unk) (vs.getD j undef):=by
 cases h with|func h1 h2=>exact⟨_,rfl,h1,h2⟩
theorem Rel.Xh{cs:List AV}{u:Value}(h:Rel w κ pv (.tup cs) u):∃vs:List Value,u=.tuple vs.toArray∧vs.length=cs.length∧∀j,j<cs.length→Rel w κ pv (cs.getD j .unk) (vs.getD j undef):=by
 cases h with|tup h1 h2=>exact⟨_,rfl,h1,h2⟩
theorem Rel.af9{cs:List AV}{u:Value}(h:Rel w κ pv (.agg cs) u):∃vs:List Value,u=.agg vs.toArray∧vs.length=cs.length∧∀j,j<cs.length→Rel w κ pv (cs.getD j .unk) (vs.getD j undef):=by
 cases h with|agg h1 h2=>exact⟨_,rfl,h1,h2⟩
theorem Si:∀{es:List (List AV)} {ys:List UInt8},vW es=some ys→∃xs:List Int,xs.length=es.length∧(∀i,i<es.length→es.getD i []=[.int .u8 (xs.getD i 0)])∧ys=xs.map fun n=>UInt8.ofNat n.toNat
 |[],ys,h=>by simp only[vW,Option.some.injEq]at h;subst h;exact⟨[],rfl,fun i hi=>(by cases hi),rfl⟩
 |e::r,ys,h=>by
  simp only[vW]at h;split at h
  ·rename_i n;cases hr:vW r with
   |none=>rw[hr]at h;cases h
   |some zs=>
    rw[hr]at h;simp at h;subst h;obtain⟨xs,h1,h2,h3⟩:=Si hr;refine⟨n::xs,by simp[h1],fun i hi=>?_,by simp[h3]⟩
    grind
  ·cases h
theorem aj0(xs:List Int):strOfNums xs=⟨(xs.map fun n=>UInt8.ofNat n.toNat).toArray⟩:=by
 simp[strOfNums]
theorem aeE{s t:Nat}{es:List (List AV)}{tg:Tag}{v:Value}{ys:List UInt8}(hr:Rel w κ pv (.slice es tg) v)(hb:Qj P s t=true)(hy:vW es=some ys):∃u,(convert s t v).run P w=.ok u w∧Rel w κ pv (.str ys) u:=by
 obtain⟨e,hs,he,hd⟩:∃e,P.underlying s=some (.slice e)∧P.underlying e=some (.int .u8)∧P.underlying t=some .string:=by
  unfold Qj at hb
  grind
 obtain⟨xs,hl,hx,rfl⟩:=Si hy;cases hr with
 |@slice _ _ a cap b off sz u h1 h2 h3 h3' h4 h5 h6 _=>
  have hlen:(xs.map fun n=>UInt8.ofNat n.toNat).length≤9223372036854775807:=by simp;omega
  refine⟨.string ⟨(xs.map fun n=>UInt8.ofNat n.toNat).toArray⟩,?_,.str hlen⟩;by_cases hne:es=[]
  ·subst hne;have hxs:xs=[]:=qAz.1 (by simpa using hl);subst hxs;cases a with
   |none=>rw[run_convert_bytes_nil w s e hs he _ _ t hd];rfl
   |some p=>
    rw[run_convert_bytes_string w s t e _ _ _ hs he hd,run_bytesToString w p _ cap [] (by simp[loadCells,loadCellsFrom])];rfl
  ·rw[h2 hne];have hsz:sz=1:=by
    have h0:0<es.length:=qBL.2 hne
    grind
   subst hsz;rw[run_convert_bytes_arg w s e hs he b off es.length cap xs hl (fun i hi=>by
    have g1:=h5 i 0 hi (by omega);have g2:=h6 i 0 hi (by omega);rw[hx i hi]at g2;simp at g2;simp at g1;rw[g1];have:=g2.vC.1;rw[this];simp[List.getD]) t hd,aj0]
theorem aiN{t sz:Nat}{ρ:Operand→AV}{ev:Operand→Value}{parts:Array (Nat×Operand)}{z cs:List AV}(hρ:∀x,Rel w κ pv (ρ x) (ev x))(hst:TF P t=some sz)(hz:kU P t=some z)
  (h:kR (fun i=>some (i*sz,sz)) z (parts.toList.map fun p=>(p.1,ρ p.2))=some cs):∃y,(Instr.build t (parts.map fun p=>(p.1,ev p.2))).run P w=.ok y w∧Rel w κ pv (.agg cs) y:=by
 unfold TF at hst;split at hst
 ·rename_i n e hu;unfold kU at hz;cases hi:P.info? t with
  |none=>rw[hi]at hz;cases hz
  |some i=>
   rw[hi]at hz;simp only[qAb]at hz;cases hzv:i.zero with
   |none=>rw[hzv]at hz;cases hz
   |some zv=>
    rw[hzv]at hz;simp at hz;subst hz;have hf:=LX (w:=w) (κ:=κ) (pv:=pv) (place:=fun i=>some (i*sz,sz)) (parts.toList.map fun p=>(p.1,ρ p.2)) (parts.toList.map fun p=>(p.1,ev p.2)) (zv.cells.toList.map ofConst) cs zv.cells (by simp)
     (fun j hj=>by
      simp at hj;simp only[List.getD,qAF,qAe hj,qAt,qAi];exact⟨trivial,hρ _⟩) (by simp)
     (fun j hj=>by
      have:(zv.cells.toList.map ofConst).getD j .unk=ofConst (zv.cells.getD j undef):=by
       simp_all
      rw[this];exact uO _) h
    obtain⟨c',h1,h2,h3⟩:=hf;refine⟨.agg c',?_,?_⟩
    ·have e2:(parts.map fun p=>(p.1,ev p.2)).toList=parts.toList.map fun p=>(p.1,ev p.2):=by simp
     simp only[Instr.build,zeroValue,typeInfo,Sem.run_bind,Result.andThen_ok,run_underlying hu,nG hst]
     simp_all
    ·have e2:c'=c'.toList.toArray:=by simp
     refine .agg (by simpa using h2) fun j hj=>?_;have:=h3 j hj;simpa[qAh,List.getD]using this
 ·cases hst
theorem aiA{o:Oper}{ρ:Operand→AV}{ev:Operand→Value}{v:AV}(hρ:∀x,Rel w κ pv (ρ x) (ev x))(h:aM P o.op ρ=some v):
  ∃u,(execOp ev o).run P w=.ok (.value u) w∧Rel w κ pv v u:=by
 obtain⟨dst,op,ty,pos,after,guard⟩:=o;cases op with
 |move x=>cases h;exact⟨_,by simp[execOp],hρ x⟩
 |assign x=>cases h;exact⟨_,by simp[execOp],hρ x⟩
 |pick c x y=>
  simp only[aM]at h;have hc:=hρ c;split at h
  ·rename_i t ht;cases h;rw[ht]at hc;have:=hc.Ec;cases t
   ·exact⟨ev y,by simp[execOp,this,asBool],hρ y⟩
   ·exact⟨ev x,by simp[execOp,this,asBool],hρ x⟩
  ·cases h
 |nilCheck x=>
  simp only[aM]at h;have hc:=hρ x;split at h
  ·rename_i l o ht;cases h;rw[ht]at hc;obtain⟨b,e,_⟩:=hc.tN;exact⟨ev x,by simp[execOp,e],hc⟩
  ·rename_i cs ht;cases h;rw[ht]at hc;obtain⟨b,off,y,e,_⟩:=hc.ac2;exact⟨ev x,by simp[execOp,e],hc⟩
  ·rename_i f cs ht;cases h;rw[ht]at hc;obtain⟨vs,e,_⟩:=hc.xI;exact⟨ev x,by simp[execOp,e],hc⟩
  ·rename_i cs r ht;cases h;rw[ht]at hc;cases hev:ev x with
   |pointer p=>
    rw[hev]at hc;cases hc with
    |@flcons _ _ b off u y h1 h2 h3 h4 h5=>
     refine⟨.pointer (some ⟨b,off,none⟩),by simp[execOp,hev],?_⟩;refine .eptr (fun j=>if j<cs.length then u j else y) (fun j hj=>h1 j (by simp at hj;omega)) (fun j hj=>?_) (fun j hj=>?_)
     ·by_cases hlt:j<cs.length
      ·simp only[hlt,if_true];exact h2 j hlt
      ·have:j=cs.length:=by simp at hj;omega
       subst this;simp only[qCy,if_false];exact h3
     ·by_cases hlt:j<cs.length
      ·simp only[hlt,if_true];have:(cs++[AV.flist r]).getD j .unk=cs.getD j .unk:=by simp[List.getD,qAf hlt]
       rw[this];exact h4 j hlt
      ·have:j=cs.length:=by simp at hj;omega
       subst this;simp only[qCy,if_false];have:(cs++[AV.flist r]).getD cs.length .unk=.flist r:=by simp[List.getD]
       rw[this];exact h5
   |_=>rw[hev]at hc;cases hc
  ·cases h
 |binOp op t x y ty2=>
  simp only[aM]at h;obtain⟨u,h1,h2,h3⟩:=aiC (x:=x) (y:=y) (hρ x) (hρ y) h;exact⟨u,by simp[execOp,h1,h2],h3⟩
 |unOp op t x=>
  simp only[aM]at h;have hc:=hρ x;split at h
  ·rename_i b ht;cases h;rw[ht]at hc;exact⟨.bool !b,by simp[execOp,hc.Ec,Op.unary],.bool _⟩
  ·rename_i k n ht;cases h;rw[ht]at hc;exact⟨_,by simp[execOp,hc.vC.1,Op.unary,Op.intArith];rfl,by have:=wf_wrap k (0 - n);simpa using Rel.int this⟩
  ·cases h
 |fieldAddr s x f=>
  obtain⟨y,h1,h2⟩:=Wt (P:=P) h (hρ x);exact⟨y,by simp[execOp,h1],h2⟩
 |field s x f=>
  obtain⟨y,h1,h2⟩:=afh (P:=P) h (hρ x);exact⟨y,by simp[execOp,h1],h2⟩
 |indexAddr t x i=>
  obtain⟨y,h1,h2⟩:=Wn (hρ x) (hρ i) h;exact⟨y,by simp[execOp,h1],h2⟩
 |index t x i=>
  obtain⟨y,h1,h2⟩:=aeR (P:=P) h (hρ x) (hρ i);exact⟨y,by simp[execOp,h1],h2⟩
 |extract x i=>
  simp only[aM]at h;have hc:=hρ x;split at h
  ·rename_i vs ht;split at h
   ·rename_i hi;cases h;rw[ht]at hc;obtain⟨us,e,hl,hr⟩:=hc.Xh;obtain⟨y,hy⟩:∃y,us[i]? =some y:=⟨_,qAe (show i<us.length by omega)⟩;have e2:=hr i hi;have e3:us.getD i undef=y:=by rw[List.getD,hy];rfl
    rw[e3]at e2;exact⟨y,by simp[execOp,e,Instr.extract,hy],e2⟩
   ·cases h
  ·cases h
 |slice t x lo hi mx=>
  cases mx with
  |some m=>cases h
  |none=>
   simp only[aM]at h;have hc:=hρ x;split at h
   ·rename_i s ht;rw[ht]at hc;obtain⟨e,hl⟩:=hc.Eh;split at h
    ·rename_i hst;split at h
     ·rename_i h' hh;split at h
      ·rename_i l hl';cases h;obtain⟨b1,b2,b3⟩:=BX (P:=P) (w:=w) (κ:=κ) (pv:=pv) (isS:=false) (Py hρ lo) (Py hρ hi) (qAc _) hh hl';refine⟨.string ⟨((s.drop l).take (h' - l)).toArray⟩,?_,.str (by simp;omega)⟩;have e2:(ByteArray.mk s.toArray).extract l h'=⟨((s.drop l).take (h' - l)).toArray⟩:=by rw[Lib.extract_eq]
       simp only[execOp,Instr.sliceAt,Instr.slice,e,Sem.run_bind,run_underlying (O5 hst),Result.andThen_ok,size_mk,qCM];simp[b1,e2]
      ·cases h
     ·cases h
    ·cases h
   ·rename_i es tag ht;rw[ht]at hc;split at h
    ·rename_i sz hsz;split at h
     ·rename_i h' hh;split at h
      ·rename_i l hl';split at h
       ·rename_i hcond;cases h;obtain⟨a,cap,e,hcap,_⟩:=hc.jL;rw[e]at hc;obtain⟨b1,b2,b3⟩:=BX (P:=P) (w:=w) (κ:=κ) (pv:=pv) (isS:=true) (Py hρ lo) (Py hρ hi) hcap hh hl';obtain⟨el,hu,hs2⟩:=Ez hsz;refine⟨_,?_,aeD hc hsz b2 b3 hcond⟩;simp only[execOp,Instr.sliceAt,Instr.slice,e,Sem.run_bind,run_underlying hu,Result.andThen_ok,qCM];simp[b1,nG hs2]
       ·cases h
      ·cases h
     ·cases h
    ·cases h
   ·rename_i l z n ht;rw[ht]at hc;split at h
    ·rename_i sz hsz;split at h
     ·rename_i h' hh;cases h;cases hev:ev x with
      |slice a len cap=>
       rw[hev]at hc;cases hc with
       |psl g1 g2 g3=>
        obtain⟨b1,b2,b3⟩:=BX (P:=P) (w:=w) (κ:=κ) (pv:=pv) (isS:=true) (alo:=none) (lo:=none) trivial (Py hρ hi) g1 hh (show eB none 0 h'=some 0 from rfl);obtain⟨el,hu,hs2⟩:=Ez hsz;refine⟨.slice a h' cap,?_,.psl (by omega) (by omega) g3⟩;simp only[execOp,Instr.sliceAt,Instr.slice,hev,Sem.run_bind,run_underlying hu,Result.andThen_ok,qCM];simp[b1,nG hs2,Addr.add]
      |_=>rw[hev]at hc;cases hc
     ·cases h
    ·cases h
   ·cases h
 |build t parts=>
  simp only[aM]at h;split at h
  ·rename_i hst;split at h
   ·rename_i z hz;cases hf:kR (Al P t) z (parts.toList.map fun p=>(p.1,ρ p.2))with
    |none=>rw[hf]at h;cases h
    |some cs=>
     rw[hf]at h;cases h;obtain⟨y,h1,h2⟩:=afq (ev:=ev) hρ hst hz hf;exact⟨y,by simp[execOp,h1],h2⟩
   ·cases h
  ·split at h
   ·rename_i sz z hsz hz;cases hf:kR (fun i=>some (i*sz,sz)) z (parts.toList.map fun p=>(p.1,ρ p.2))with
    |none=>rw[hf]at h;cases h
    |some cs=>
     rw[hf]at h;cases h;obtain⟨y,h1,h2⟩:=aiN (ev:=ev) hρ hsz hz hf;exact⟨y,by simp[execOp,h1],h2⟩
   ·cases h
 |makeFunc fn first captured=>
  cases fn with
  |func f=>
   simp only[aM]at h;split at h
   ·rename_i hz;cases h;have e:first=#[]:=Array.eq_empty_of_size_eq_zero hz
    subst e;refine⟨.func (.func f) #[] (captured.toList.map ev).toArray,by simp[execOp,Instr.makeFunc];rw[←Array.toList_map,qAG],.func (by simp) fun j hj=>?_⟩;simp only[qAo]at hj;simp only[List.getD,qAF,qAe hj,qAt,qAi];exact hρ _
   ·cases h
  |_=>cases h
 |load t x=>
  simp only[aM]at h;have hc:=hρ x;split at h
  ·rename_i cs ht;rw[ht]at hc;obtain⟨b,off,y,e,h1,h2,h3⟩:=hc.ac2;obtain⟨z,h4,h5⟩:=Cx y h2 h3 h;exact⟨z,by simp[execOp,Instr.loadAt,e,Instr.sureAddr,h4],h5⟩
  ·cases h
 |convert s t x=>
  simp only[aM]at h;have hc:=hρ x;split at h
  ·rename_i k' n k ht hk;cases h;rw[ht]at hc;obtain⟨k2,hu1,hu2⟩:=ahY hk;exact⟨.int k (k.wrap n),by simp[execOp,convert,hc.vC.1,run_underlying hu1,run_underlying hu2,Conv.intToInt],.int (wf_wrap _ _)⟩
  ·rename_i es tg ht hk;rw[ht]at hc;split at h
   ·rename_i hb;cases hy:vW es with
    |none=>rw[hy]at h;cases h
    |some ys=>
     rw[hy]at h;cases h;obtain⟨u,h1,h2⟩:=aeE (P:=P) hc hb hy;exact⟨u,by simp[execOp,h1],h2⟩
   ·cases h
  ·cases h
 |call c=>
  obtain⟨callee,args,argTypes⟩:=c;cases callee with
  |builtin b=>
   cases b<;>try cases h
   case len=>
    simp only[aM]at h;split at h
    ·rename_i x t ha ht;have ea:args=#[x]:=by rw[←qAG (xs:=args),ha]
     have et:argTypes=#[t]:=by rw[←qAG (xs:=argTypes),ht]
     subst ea et;have hc:=hρ x;split at h
     ·rename_i s hs;rw[hs]at hc;split at h
      ·rename_i hst;cases h;obtain⟨e,hl⟩:=hc.Eh;refine⟨.int .i64 s.length,?_,.int ?_⟩
       ·simp[execOp,resolve,invoke,builtin,Builtin.len_,run_underlying (O5 hst),e,size_mk,goInt]
       ·simp only[rD,IntKind.min,IntKind.max,IntKind.signed,IntKind.bits];simp;omega
      ·cases h
     ·rename_i es tag hs;rw[hs]at hc;split at h
      ·rename_i hst;cases h;obtain⟨a,cap,e,_,hl⟩:=hc.jL;obtain⟨n,hn⟩:=qCJ.1 hst;obtain⟨el,hu,_⟩:=Ez hn;refine⟨.int .i64 es.length,?_,.int ?_⟩
       ·simp[execOp,resolve,invoke,builtin,Builtin.len_,run_underlying hu,e,goInt]
       ·simp only[rD,IntKind.min,IntKind.max,IntKind.signed,IntKind.bits];simp;omega
      ·cases h
     ·rename_i l z n hs;rw[hs]at hc;split at h
      ·rename_i hst;cases h;obtain⟨m,hn⟩:=qCJ.1 hst;obtain⟨el,hu,_⟩:=Ez hn;cases hev:ev x with
       |slice a len cap=>
        rw[hev]at hc;cases hc with
        |psl g1 g2 g3=>
         refine⟨.int .i64 n,?_,.int ?_⟩
         ·simp[execOp,resolve,invoke,builtin,Builtin.len_,run_underlying hu,hev,goInt]
         ·simp only[rD,IntKind.min,IntKind.max,IntKind.signed,IntKind.bits];simp;omega
       |_=>rw[hev]at hc;cases hc
      ·cases h
     ·cases h
    ·cases h
   case max=>
    simp only[aM]at h;split at h
    ·rename_i x y ha;have ea:args=#[x,y]:=by rw[←qAG (xs:=args),ha]
     subst ea;split at h
     ·rename_i k a k' b h1 h2;split at h
      ·rename_i hk;cases h;subst hk;have hx:=hρ x;have hy:=hρ y;rw[h1]at hx;rw[h2]at hy;refine⟨.int k (if b>a then b else a),by simp[execOp,resolve,invoke,builtin,Builtin.max_,Builtin.max2,hx.vC.1,hy.vC.1],?_⟩;split
       ·exact .int hy.vC.2
       ·exact .int hx.vC.2
      ·cases h
     ·cases h
    ·cases h
   case min=>
    simp only[aM]at h;split at h
    ·rename_i x y ha;have ea:args=#[x,y]:=by rw[←qAG (xs:=args),ha]
     subst ea;split at h
     ·rename_i k a k' b h1 h2;split at h
      ·rename_i hk;cases h;subst hk;have hx:=hρ x;have hy:=hρ y;rw[h1]at hx;rw[h2]at hy;refine⟨.int k (if b<a then b else a),by simp[execOp,resolve,invoke,builtin,Builtin.min_,Builtin.min2,hx.vC.1,hy.vC.1],?_⟩;split
       ·exact .int hy.vC.2
       ·exact .int hx.vC.2
      ·cases h
     ·cases h
    ·cases h
  |_=>cases h
 |_=>cases h
end
end
end Abs
end Go.Proofs.YtkopaeklihhdlaaGreat

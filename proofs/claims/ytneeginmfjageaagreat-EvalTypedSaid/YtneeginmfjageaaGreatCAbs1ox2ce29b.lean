/-
  The abstract values (pure data without addresses), how they stand for the model's values in a world, and that this relation is kept by every change of private memory alone. Conditions: none; plain definitions and lemmas over any world.
-/
import Derived.Test.YtneeginmfjageaaGreatAl
import Derived.WalkKit
import Derived.MapKept
import Derived.Laws.BytesArg
import Derived.Lib.Strings
set_option linter.all false
namespace Go.Proofs.YtneeginmfjageaaGreat
namespace Abs
section
open Go
inductive Tag where
 |shared|nils|tip (l z:Nat)
inductive AV where
 |unk
 |int (k:IntKind) (n:Int)
 |bool (b:Bool)
 |str (s:List UInt8)
 |nilp
 |ptr (l off:Nat)
 |eptr (cs:List AV)
 |slice (es:List (List AV)) (tag:Tag)
 |agg (cs:List AV)
 |tup (vs:List AV)
 |func (f:Nat) (caps:List AV)
 |mapr (l:Nat)
 |nilFunc
 |psl (l z len:Nat)
 |flist (ns:List (List AV))
 |ifc (t:TypeId) (v:Value)
instance:Inhabited AV:=⟨.unk⟩
inductive AObj where
 |box (cs:List AV)
 |tip (n:Nat)
 |mp (es:List (List UInt8×AV))
 |dead
 |res
 |arr (z:Nat) (es:List (List AV))
abbrev aM:=List (Option Nat)
abbrev bJ:=Nat->Nat->Prop
def at?(κ:aM)(l:Nat):=(κ[l]?).getD none
def qc(k:IntKind)n:=k.min<=n/\n<=k.max
def Qw(w:World)(κ:aM)(a:Option Addr)(cap sz:Nat):Tag->Prop| .shared=>True| .nils=>a=none/\cap=0| .tip l z=>z=sz/\(a=none/\cap=0∨∃b c e,at? κ l=some b/\a=some ⟨b,0,none⟩/\w.heap[b]? =some (Obj.cells c e (0,0))/\cap*sz<=c.size)
inductive Rel(w:World)(κ:aM)(pv:bJ):AV→Value→Prop where
 |unk (v:Value):Rel w κ pv .unk v
 |int {k:IntKind} {n:Int}:qc k n→Rel w κ pv (.int k n) (.int k n)
 |bool (b:Bool):Rel w κ pv (.bool b) (.bool b)
 |str {s:List UInt8}:s.length≤9223372036854775807→Rel w κ pv (.str s) (.string ⟨s.toArray⟩)
 |nilp:Rel w κ pv .nilp (.pointer none)
 |ifc (t:TypeId) (v:Value):Rel w κ pv (.ifc t v) (.iface t v)
 |ptr {l off b:Nat}:at? κ l=some b→Rel w κ pv (.ptr l off) (.pointer (some ⟨b,off,none⟩))
 |eptr {cs:List AV} {b off:Nat} (u:Nat→Value):(∀j,j<cs.length→¬pv b (off+j))→(∀j,j<cs.length→w.cell? ⟨b,off+j,none⟩=some (u j))→
   (∀j,j<cs.length→Rel w κ pv (cs.getD j .unk) (u j))→Rel w κ pv (.eptr cs) (.pointer (some ⟨b,off,none⟩))
 |slice {es:List (List AV)} {tag:Tag} {a:Option Addr} {cap:Nat} (b off sz:Nat) (u:Nat→Nat→Value):
   (∀i,i<es.length→(es.getD i []).length=sz)→(es≠[]→a=some ⟨b,off,none⟩)→es.length≤cap→es.length≤9223372036854775807→
   (∀i j,i<es.length→j<sz→¬pv b (off+(i*sz+j)))→(∀i j,i<es.length→j<sz→w.cell? ⟨b,off+(i*sz+j),none⟩=some (u i j))→
   (∀i j,i<es.length→j<sz→Rel w κ pv ((es.getD i []).getD j .unk) (u i j))→Qw w κ a cap sz tag→Rel w κ pv (.slice es tag) (.slice a es.length cap)
 |agg {cs:List AV} {vs:List Value}:vs.length=cs.length→(∀j,j<cs.length→Rel w κ pv (cs.getD j .unk) (vs.getD j undef))→Rel w κ pv (.agg cs) (.agg vs.toArray)
 |tup {cs:List AV} {vs:List Value}:vs.length=cs.length→(∀j,j<cs.length→Rel w κ pv (cs.getD j .unk) (vs.getD j undef))→Rel w κ pv (.tup cs) (.tuple vs.toArray)
 |func {f:Nat} {cs:List AV} {vs:List Value}:vs.length=cs.length→(∀j,j<cs.length→Rel w κ pv (cs.getD j .unk) (vs.getD j undef))→Rel w κ pv (.func f cs) (.func (.func f) #[] vs.toArray)
 |mapr {l b:Nat}:at? κ l=some b→Rel w κ pv (.mapr l) (.map (some b))
 |nilFunc:Rel w κ pv .nilFunc .nilFunc
 |psl {l z len cap:Nat} {a:Option Addr}:len≤cap→len≤140737488355328→Qw w κ a cap z (.tip l z)→Rel w κ pv (.psl l z len) (.slice a len cap)
 |flnil:Rel w κ pv (.flist []) (.pointer none)
 |flcons {cs:List AV} {r:List (List AV)} {b off:Nat} (u:Nat→Value) (x:Value):(∀j,j≤cs.length→¬pv b (off+j))→(∀j,j<cs.length→w.cell? ⟨b,off+j,none⟩=some (u j))→w.cell? ⟨b,off+cs.length,none⟩=some x→
   (∀j,j<cs.length→Rel w κ pv (cs.getD j .unk) (u j))→Rel w κ pv (.flist r) x→Rel w κ pv (.flist (cs::r)) (.pointer (some ⟨b,off,none⟩))
structure Evo(pv:bJ)(w w':World):Prop where
 size:w.heap.size≤w'.heap.size
 cell:∀b off u,¬pv b off→w.cell? ⟨b,off,none⟩=some u→w'.cell? ⟨b,off,none⟩=some u
 shape:∀(b:Nat) c e z,w.heap[b]? =some (Obj.cells c e z)→∃c',w'.heap[b]? =some (Obj.cells c' e z)∧c'.size=c.size
theorem Evo.refl pv w:Evo pv w w:=⟨qAd _,λ_ _ _ _ h=>h,λ_ c _ _ h=>⟨c,h,rfl⟩⟩
theorem Evo.trans{pv p a b c}(h:Evo pv a b)(k:Evo p b c)(m:∀x o,p x o->x<a.heap.size->pv x o):Evo pv a c:=by
 refine⟨qAu h.size k.size,λx o u n f=>k.cell x o u (λhp'=>?_) (h.cell x o u n f),λx d e z g=>?_⟩
 ·by_cases g:x<a.heap.size
  ·grind
  have:a.heap[x]? =none:=by simp;omega
  simp[World.cell?,this]at f
 obtain⟨j,l,s⟩:=h.shape x d e z g;obtain⟨q,r,t⟩:=k.shape x j e z l
 grind
def dw κ κ':=∀l b,at? κ l=some b->at? κ' l=some b
theorem dw.refl κ:dw κ κ:=λ_ _ h=>h
theorem dw.trans{a b c}(h:dw a b)(k:dw b c):dw a c:=λl x d=>k l x (h l x d)
theorem Qw.mono{w w'}{κ κ'}{pv}{a}{cap sz}{t}(h:Qw w κ a cap sz t)(f:Evo pv w w')(k:dw κ κ'):Qw w' κ' a cap sz t:=by
 cases t with|shared=>trivial|nils=>exact h|tip l z=>
  obtain⟨d,h|⟨b,c,e,g,i,j,m⟩⟩:=h;·exact⟨d,.inl h⟩
  obtain⟨n,o,p⟩:=f.shape b c e _ j;exact⟨d,.inr ⟨b,n,e,k l b g,i,o,(by rw[p];exact m)⟩⟩
theorem lt_of_cell{w:World}{b o u}(h:w.cell? ⟨b,o,none⟩=some u):b<w.heap.size:=by
 apply qAp;intro n;have:w.heap[b]? =none:=by simp;omega
 simp[World.cell?,this]at h
theorem Rel.mono{w w'}{κ κ'}{pv k}(f:Evo pv w w')(n:dw κ κ')(q:∀b o,k b o->b<w.heap.size->pv b o):
  ∀{x:AV} {v:Value},Rel w κ pv x v->Rel w' κ' k x v:=by
 intro x v h
 induction h with|unk v=>exact .unk v|int h=>exact .int h|bool b=>exact .bool b|str h=>exact .str h|nilp=>exact .nilp|ifc t v=>exact .ifc t v|ptr h=>exact .ptr (n _ _ h)|eptr u a e _ d=>exact .eptr u (λj c p=>a j c (q _ _ p (lt_of_cell (e j c)))) (λj c=>f.cell _ _ _ (a j c) (e j c)) d|slice b l D u a e g s B C _ E d=>exact .slice b l D u a e g s (λi j m c p=>B i j m c (q _ _ p (lt_of_cell (C i j m c)))) (λi j m c=>f.cell _ _ _ (B i j m c) (C i j m c)) d (E.mono f n)|agg a _ d=>exact .agg a d|tup a _ d=>exact .tup a d|func a _ d=>exact .func a d|mapr h=>exact .mapr (n _ _ h)|nilFunc=>exact .nilFunc|psl a e g=>exact .psl a e (g.mono f n)|flnil=>exact .flnil|@flcons F r b l u x a e g _ _ y z=>have A:b<w.heap.size:=lt_of_cell g;exact .flcons u x (λj c p=>a j c (q _ _ p A)) (λj c=>f.cell _ _ _ (a j (Nat.le_of_lt c)) (e j c)) (f.cell _ _ _ (a _ (qAd _)) g) y z
theorem Rel.share{w}{κ}{pv}{es}{t}{v}(h:Rel w κ pv (.slice es t) v):Rel w κ pv (.slice es .shared) v:=by
 cases h with|slice b o s u c d e a f g i _=>exact .slice b o s u c d e a f g i trivial
structure ASt where
 tmps:List AV
 heap:List AObj
def obj?(H:List AObj)(l:Nat):=(H[l]?).getD .dead
def uf:AObj->Nat->Prop| .box _,_=>True| .mp _,_=>True| .tip n,o=>n<=o| .arr _ _,_=>True|_,_=>False
def live:AObj->Prop| .box _=>True| .mp _=>True| .tip _=>True| .arr _ _=>True|_=>False
structure Ctx where
 ak:bJ
 old:Nat→Prop
 w0:World
 k0:aM
 pvE:bJ
 ds:List Deferred:=[]
def aD(ak:bJ)(κ:aM)(H:List AObj):bJ:=λb o=>ak b o∨∃l,at? κ l=some b/\uf (obj? H l) o
def avl(ms)clock(s:List (List UInt8)):=s.length<=140737488355328/\MapKept.Stamped ms clock/\∀k∈s,k.length<=9223372036854775807
def pQ(w:World)(κ:aM)(pv:bJ)(b:Nat):AObj->Prop
 | .box a=>∃c e,w.heap[b]? =some (Obj.cells c e (0,0))/\c.size=a.length/\∀j,j<a.length->Rel w κ pv (a.getD j .unk) (c.getD j undef)| .tip n=>∃c e,w.heap[b]? =some (Obj.cells c e (0,0))/\n<=c.size| .mp s=>∃m l,w.heap[b]? =some (Obj.map m l)/\m.size=s.length/\avl m l (s.map (·.1))/\
   ∀j,j<s.length->(m.getD j default).key=.string ⟨((s.getD j ([],.unk)).1).toArray⟩/\Rel w κ pv (s.getD j ([],.unk)).2 (m.getD j default).val
 | .arr z s=>∃c e,w.heap[b]? =some (Obj.cells c e (0,0))/\s.length*z<=c.size/\(∀i,i<s.length->(s.getD i []).length=z)/\
   ∀i j,i<s.length->j<z->Rel w κ pv ((s.getD i []).getD j .unk) (c.getD (i*z+j) undef)
 |_=>True
structure Sim(C:Ctx)(κ:aM)(s:ASt)(a:Act)(w:World):Prop where
 defers:a.defers=C.ds
 len:a.tmps.size=s.tmps.length
 slot:∀n,n<s.tmps.length→Rel w κ (aD C.ak κ s.heap) (s.tmps.getD n .unk) (a.tmps.getD n undef)
 klen:κ.length=s.heap.length
 kext:dw C.k0 κ
 resv:∀l,obj? s.heap l=.res→at? κ l=none
 obj:∀l b,at? κ l=some b→live (obj? s.heap l)→pQ w κ (aD C.ak κ s.heap) b (obj? s.heap l)
 apart:∀l l' b,at? κ l=some b→at? κ l'=some b→live (obj? s.heap l)→live (obj? s.heap l')→l=l'
 own:∀l b,at? κ l=some b→live (obj? s.heap l)→¬C.old b
 bound:∀l b,at? κ l=some b→b<w.heap.size
 pvold:∀b o,C.ak b o→C.old b
 oldlt:∀b,C.old b→b<C.w0.heap.size
 old:∀b:Nat,C.old b→w.heap[b]? =C.w0.heap[b]?
 os:w.os=C.w0.os
 tape:w.tape=C.w0.tape
 output:w.output=C.w0.output
 size:C.w0.heap.size≤w.heap.size
 pvsub:∀b o,aD C.ak κ s.heap b o→b<C.w0.heap.size→C.pvE b o
 kS:Evo C.pvE C.w0 w
def ASt.setSlot(s:ASt)d(v):={s with tmps:=s.tmps.set d v}
def ASt.setObj(s:ASt)l(o):={s with heap:=s.heap.set l o}
theorem kK{α:Type}{l:List α}{n v d}(h:n<l.length):(l.set n v).getD n d=v:=by grind
theorem ou{α:Type}{l:List α}{n m v d}(h:n≠m):(l.set n v).getD m d=l.getD m d:=by grind
theorem rC{c:Array Value}{n v d}(h:n<c.size):(c.setIfInBounds n v).getD n d=v:=by simp_all
theorem mM{c:Array Value}{n m v d}(h:n≠m):(c.setIfInBounds n v).getD m d=c.getD m d:=by simp_all
theorem Sim.put{C κ s a w}(h:Sim C κ s a w){d v u}(e:Rel w κ (aD C.ak κ s.heap) v u):
  Sim C κ (s.setSlot d v) (a.put (some d) u) w:=by
 refine{h with len:=?_,slot:=?_};·simp[ASt.setSlot,Act.put,h.len]
 intro n b;simp only[ASt.setSlot,qAU]at b|-;simp only[Act.put];by_cases c:d=n
 ·subst c;rw[kK b,rC (by rw[h.len];exact b)];exact e
 rw[ou c,mM c];exact h.slot n b
theorem at?_set_same{κ:aM}{k b}(h:k<κ.length):at? (κ.set k (some b)) k=some b:=by simp[at?,h]
theorem at?_set_other{κ k l b}(h:k≠l):at? (κ.set k (some b)) l=at? κ l:=by simp[at?,qCa h]
theorem obj?_set_same{H:List AObj}{k o}(h:k<H.length):obj? (H.set k o) k=o:=by simp[obj?,h]
theorem obj?_set_other{H k l o}(h:k≠l):obj? (H.set k o) l=obj? H l:=by simp[obj?,qCa h]
theorem lt_of_at?{κ l b}(h:at? κ l=some b):l<κ.length:=by
 unfold at? at h
 grind
theorem pQ.mono{w w'}{κ κ'}{pv p}{b}{o}(h:pQ w κ pv b o)(k:w'.heap[b]? =w.heap[b]?)(m:Evo pv w w')(q:dw κ κ')
  (r:∀b o,p b o->b<w.heap.size->pv b o):pQ w' κ' p b o:=by
 cases o with|box x=>obtain⟨c,e,a,d,g⟩:=h;exact⟨c,e,by rw[k];exact a,d,λj f=>(g j f).mono m q r⟩|tip n=>obtain⟨c,e,a,d⟩:=h;exact⟨c,e,by rw[k];exact a,d⟩|mp s=>obtain⟨t,u,a,d,g,l⟩:=h;exact⟨t,u,by rw[k];exact a,d,g,λj f=>⟨(l j f).1,(l j f).2.mono m q r⟩⟩|dead=>trivial|res=>trivial|arr z s=>obtain⟨c,e,a,d,g,l⟩:=h;exact⟨c,e,by rw[k];exact a,d,g,λi j v f=>(l i j v f).mono m q r⟩
theorem Sim.step{C κ κ' s a}{w w':World}{H':List AObj}(h:Sim C κ s a w)
  (f:Evo (aD C.ak κ s.heap) w w') (k:dw κ κ') (z:κ'.length=H'.length)
  (p:∀b o,aD C.ak κ' H' b o->b<w.heap.size->aD C.ak κ s.heap b o)
  (j:∀l b,at? κ' l=some b->live (obj? H' l)->(at? κ l=some b/\obj? H' l=obj? s.heap l/\w'.heap[b]? =w.heap[b]?)∨
   (b<w'.heap.size/\¬C.old b/\pQ w' κ' (aD C.ak κ' H') b (obj? H' l)))
  (i:∀l l' b,at? κ' l=some b->at? κ' l'=some b->live (obj? H' l)->live (obj? H' l')->l=l')
  (m:∀l b,at? κ' l=some b->b<w'.heap.size)
  (r:∀l,obj? H' l=.res->at? κ' l=none)
  (d:∀b:Nat,C.old b->w'.heap[b]? =w.heap[b]?) (q:w'.os=w.os) (A:w'.tape=w.tape) (B:w'.output=w.output):
  Sim C κ' {s with heap:=H'} a w':=by
 have u:∀b o,aD C.ak κ' H' b o->b<C.w0.heap.size->C.pvE b o:=λb o g c=>h.pvsub b o (p b o g (qAD c h.size)) c;refine⟨h.defers,h.len,λn D=>(h.slot n D).mono f k p,z,h.kext.trans k,r,?_,i,?_,m,h.pvold,h.oldlt,λb g=>(d b g).trans (h.old b g),q.trans h.os,A.trans h.tape,B.trans h.output,qAu h.size f.size,u,h.kS.trans f h.pvsub⟩
 ·intro l b t v;rcases j l b t v with⟨x,y,e⟩|⟨_,_,e⟩
  ·rw[show obj? ({s with heap:=H'}:ASt).heap l=obj? s.heap l from y]at v|-;exact(h.obj l b x v).mono e f k p
  exact e
 intro l b t v;rcases j l b t v with⟨x,y,_⟩|⟨_,e,_⟩
 ·exact h.own l b x (by rw[<-y];exact v)
 exact e
theorem Evo.of_heap{pv w w'}(h:w'.heap=w.heap):Evo pv w w':=
 ⟨by rw[h];exact qAd _,λ_ _ _ _ a=>by simpa[World.cell?,h]using a,λb c e z d=>⟨c,by rw[h];exact d,rfl⟩⟩
theorem Sim.sameHeap{C κ s a w w'}(h:Sim C κ s a w)(c:w'.heap=w.heap)(o:w'.os=w.os)(t:w'.tape=w.tape)(e:w'.output=w.output):
  Sim C κ s a w':=
 h.step (H':=s.heap) (Evo.of_heap c) (dw.refl _) h.klen (λ_ _ d _=>d) (λl b f _=>.inl ⟨f,rfl,by rw[c]⟩) h.apart (λl b d=>by rw[c];exact h.bound l b d) h.resv (λb _=>by rw[c]) o t e
theorem cell?_push{w:World}{o b off u}(h:w.cell? ⟨b,off,none⟩=some u):World.cell? {w with heap:=w.heap.push o} ⟨b,off,none⟩=some u:=by
 simp only[World.cell?]at h|-
 grind
theorem aam{w:World}{o b}(h:b<w.heap.size):(w.heap.push o)[b]? =w.heap[b]?:=by grind
theorem Evo.push{pv w} o:Evo pv w {w with heap:=w.heap.push o}:=by
 refine⟨by simp,λb f u _ h=>cell?_push h,λb c e z a=>⟨c,?_,rfl⟩⟩
 grind
theorem Sim.new{C}{κ}{s}{a}{w}(h:Sim C κ s a w){k}(y:at? κ k=none)(t:k<s.heap.length) o ao (n:ao≠ .res)
  (r:pQ {w with heap:=w.heap.push o} (κ.set k (some w.heap.size)) (aD C.ak (κ.set k (some w.heap.size)) (s.heap.set k ao)) w.heap.size ao):
  Sim C (κ.set k (some w.heap.size)) (s.setObj k ao) a {w with heap:=w.heap.push o}:=by
 have f:k<κ.length:=by rw[h.klen];exact t
 have x:dw κ (κ.set k (some w.heap.size)):=λl b j=>by
  rw[at?_set_other];exact j
  grind
 refine h.step (H':=s.heap.set k ao) (Evo.push o) x (by simp[h.klen]) ?_ ?_ ?_ ?_ ?_ ?_ rfl rfl rfl
 ·rintro b v (j|⟨l,c,g⟩) m
  ·exact .inl j
  by_cases d:k=l;·subst d;rw[at?_set_same f]at c;cases c;omega
  rw[at?_set_other d]at c;rw[obj?_set_other d]at g;exact .inr ⟨l,c,g⟩
 ·intro l b c g;by_cases d:k=l
  ·subst d;rw[at?_set_same f]at c;cases c;refine .inr ⟨by simp,λho=>?_,by rw[obj?_set_same t];exact r⟩;have:=h.oldlt _ ho;have:=h.size;omega
  rw[at?_set_other d]at c;exact .inl ⟨c,by rw[obj?_set_other d],aam (h.bound l b c)⟩
 ·intro l p b c g q u;by_cases d:k=l<;>by_cases i:k=p
  ·grind
  ·subst d;rw[at?_set_same f]at c;cases c;rw[at?_set_other i]at g;have:=h.bound _ _ g;omega
  ·subst i;rw[at?_set_same f]at g;cases g;rw[at?_set_other d]at c;have:=h.bound _ _ c;omega
  rw[at?_set_other d]at c;rw[at?_set_other i]at g;rw[obj?_set_other d]at q;rw[obj?_set_other i]at u;exact h.apart l p b c g q u
 ·intro l b c;by_cases d:k=l
  ·subst d;rw[at?_set_same f]at c;cases c;simp
  rw[at?_set_other d]at c;have:=h.bound l b c;simp;omega
 ·intro l d;by_cases e:k=l
  ·subst e;rw[obj?_set_same t]at d;exact(n d).elim
  rw[obj?_set_other e]at d;rw[at?_set_other e];exact h.resv l d
 exact λb j=>aam (qAD (h.oldlt b j) h.size)
theorem Sim.box{C κ s a w}(h:Sim C κ s a w){l b cs}(f:at? κ l=some b)(o:obj? s.heap l=.box cs):
  ∃c e,w.heap[b]? =some (Obj.cells c e (0,0))/\c.size=cs.length/\(∀j,j<cs.length->w.cell? ⟨b,j,none⟩=some (c.getD j undef))/\
   ∀j,j<cs.length->Rel w κ (aD C.ak κ s.heap) (cs.getD j .unk) (c.getD j undef):=by have r:=h.obj l b f (by rw[o];trivial);rw[o]at r;obtain⟨c,e,d,g,i⟩:=r;refine⟨c,e,d,g,λj k=>?_,i⟩;simp[World.cell?,d,show j<c.size by omega]
theorem qw{w:World}{b j k u}(h:k≠b):(w.setCell ⟨b,j,none⟩ u).heap[k]? =w.heap[k]?:=by simp[World.setCell,qBM,qBr h]
theorem AQ{w:World}{b j u c e z}(h:w.heap[b]? =some (Obj.cells c e z)):
  (w.setCell ⟨b,j,none⟩ u).heap[b]? =some (Obj.cells (c.setIfInBounds j u) e z):=by simp[World.setCell,qBM,h]
theorem Evo.setCell{pv w b j u}(p:pv b j):Evo pv w (w.setCell ⟨b,j,none⟩ u):=by
 refine⟨by simp,λx o y n d=>?_,λx c e z a=>?_⟩
 ·rw[World.cell?_setCell_other];exact d
  grind
 by_cases h:x=b;·subst h;exact⟨_,AQ a,by simp⟩
 exact⟨c,by rw[qw h];exact a,rfl⟩
theorem Sim.store{C}{κ}{s}{a}{w}(h:Sim C κ s a w){l b j}{cs}{v}{u}(n:at? κ l=some b)(p:obj? s.heap l=.box cs)
  (M:j<cs.length) (H:Rel w κ (aD C.ak κ s.heap) v u):Sim C κ (s.setObj l (.box (cs.set j v))) a (w.setCell ⟨b,j,none⟩ u):=by
 obtain⟨c,e,I,J,_,K⟩:=h.box n p;have t:l<s.heap.length:=by rw[<-h.klen];exact lt_of_at? n
 have y:aD C.ak κ s.heap b j:=.inr ⟨l,n,by rw[p];trivial⟩;have g:Evo (aD C.ak κ s.heap) w (w.setCell ⟨b,j,none⟩ u):=Evo.setCell y;have z:∀x o,aD C.ak κ (s.heap.set l (.box (cs.set j v))) x o->x<w.heap.size->aD C.ak κ s.heap x o:=by
  rintro x o (L|⟨k,d,f⟩) _;·exact .inl L
  by_cases e:l=k;·subst e;exact .inr ⟨l,d,by rw[p];trivial⟩
  rw[obj?_set_other e]at f;exact .inr ⟨k,d,f⟩
 refine h.step (H':=s.heap.set l (.box (cs.set j v))) g (dw.refl _) (by simp[h.klen]) z ?_ ?_ ?_ ?_ ?_ rfl rfl rfl
 ·intro k q d f;by_cases e:l=k
  ·subst e;rw[n]at d;cases d;refine .inr ⟨by simpa using h.bound l b n,h.own l b n (by rw[p];trivial),?_⟩;rw[obj?_set_same t];refine⟨_,_,AQ I,by simp[J],λi A=>?_⟩;simp only[qAU]at A;by_cases B:j=i
   ·subst B;rw[kK A,rC (by omega)];exact H.mono g (dw.refl _) z
   rw[ou B,mM B];exact(K i A).mono g (dw.refl _) z
  rw[obj?_set_other e]at f|-;refine .inl ⟨d,rfl,qw λeb=>?_⟩;subst eb;exact e (h.apart l k q n d (by rw[p];trivial) f)
 ·intro F G q d f D E;refine h.apart F G q d f ?_ ?_
  ·by_cases e:l=F
   ·subst e;rw[p];trivial
   rwa[obj?_set_other e]at D
  by_cases e:l=G;·subst e;rw[p];trivial
  rwa[obj?_set_other e]at E
 ·intro k q r;simpa using h.bound k q r
 ·intro k m;by_cases e:l=k
  ·subst e;rw[obj?_set_same t]at m;cases m
  rw[obj?_set_other e]at m;exact h.resv k m
 intro q r;refine qw λeb=>?_;subst eb;exact h.own l q n (by rw[p];trivial) r
def I8:Value->AV| .int k n=>if k.min<=n/\n<=k.max then .int k n else .unk| .bool b=>.bool b| .string s=>if s.data.toList.length<=9223372036854775807 then .str s.data.toList else .unk| .pointer none=>.nilp| .slice none 0 0=>.slice [] .nils| .nilFunc=>.nilFunc|_=>.unk
theorem aoK{w κ pv} v:Rel w κ pv (I8 v) v:=by
 unfold I8;split
 ·split
  ·rename_i h;exact .int h
  exact .unk _
 ·exact .bool _
 ·split
  ·rename_i s h;have:s=⟨s.data.toList.toArray⟩:=by simp
   exact .str h
  exact .unk _
 ·exact .nilp
 ·exact .slice (es:=[]) (tag:=.nils) 0 0 0 (λ_ _=>undef) (λi h=>by cases h) (λh=>(h rfl).elim) (qBf _) (by simp) (λi j h=>by cases h) (λi j h=>by cases h) (λi j h=>by cases h) ⟨rfl,rfl⟩
 ·exact .nilFunc
 exact .unk _
def ofConst:Value->AV| .agg c=>.agg (c.toList.map I8)|v=>I8 v
theorem wz{w κ pv} v:Rel w κ pv (ofConst v) v:=by
 unfold ofConst;split
 ·rename_i c;have h:Rel w κ pv (.agg (c.toList.map I8)) (.agg c.toList.toArray):=.agg (by simp) λj a=>by
   have e:(c.toList.map I8).getD j .unk=I8 (c.toList.getD j undef):=by grind
   rw[e];exact aoK _
  simp_all
 exact aoK _
def bC(tmps:List AV):Operand->AV| .tmp t=>tmps.getD t .unk| .const v=>ofConst v| .func f=>.func f []| .global _=>.unk
theorem Sim.ev{C}{κ}{s}{a}{w}(h:Sim C κ s a w) x:Rel w κ (aD C.ak κ s.heap) (bC s.tmps x) (a.eval x):=by
 cases x with
 |tmp t=>
  by_cases b:t<s.tmps.length;·exact h.slot t b
  have:s.tmps.getD t .unk=.unk:=by rw[List.getD,qAE (qBb b)];rfl
  simp only[bC,this];exact .unk _
 |const v=>exact wz v|func f=>have h:=Rel.func (w:=w) (κ:=κ) (pv:=aD C.ak κ s.heap) (f:=f) (cs:=[]) (vs:=[]) rfl (λj c=>by cases c);simpa[bC,Act.eval]using h
 |global g=>exact .unk _
def sizeT(P:Program)t:=(P.info? t).map (·.size)
def PU(P:Program)(t:TypeId):Option Bool:=
 match P.underlying t with|some (.struct _)=>some true|some (.array _ _)=>some true|some _=>some false|none=>none
def zP(P:Program)(s:TypeId)(f:Nat):Option (Nat×TypeId):=
 match P.underlying s with
 |some (.struct a)=>(a[f]?).bind λx=>match sizeT P x.type with|some (_+1)=>some (x.offset,x.type)|_=>none
 |_=>none
def jB(P:Program)(t:TypeId)(cs:List AV):Option AV:=
 match PU P t with
 |some true=>match sizeT P t with|some n=>if cs.length=n then some (.agg cs)else if n<=cs.length then some (.agg (cs.take n))else none|none=>none
 |some false=>match cs with|[]=>none|c::_=>some c
 |none=>none
theorem A9 b off n:Addr.add ⟨b,off,none⟩ n=⟨b,off+n,none⟩:=by
 unfold Addr.add;split;·grind
 rfl
section
variable {P:Program}{w:World}
theorem nU{t}{n}(h:sizeT P t=some n):(sizeOf t).run P w=.ok n w:=by
 unfold sizeT at h;cases a:P.info? t with|none=>rw[a]at h;cases h|some i=>rw[a]at h;simp at h;simp[sizeOf,typeInfo,a,h]
theorem Ng{t}{b}(h:PU P t=some b):(isAgg t).run P w=.ok b w:=by
 unfold PU at h;unfold isAgg;cases u:P.underlying t with|none=>rw[u]at h;cases h|some d=>rw[u]at h;cases d<;>simp at h<;>subst h<;>simp[run_underlying u]
theorem run_loadCellsFrom{b off}(u:Nat->Value):∀n i a,(∀j,j<n->w.cell? ⟨b,off+(i+j),none⟩=some (u (i+j)))->
  (loadCellsFrom ⟨b,off,none⟩ i n a).run P w=.ok (a++((List.range n).map λj=>u (i+j)).toArray) w:=by
 intro n
 induction n with|zero=>intro i a _;simp[loadCellsFrom]|succ n d=>
  intro i a h;have c:=h 0 (by omega);simp only[qAP]at c;simp only[loadCellsFrom,A9,Sem.run_bind,run_load,c,Result.andThen_ok];rw[d (i+1) (a.push (u i)) (λj e=>by have:=h (j+1) (by omega);rw[show i+1+j=i+(j+1)from by omega];exact this)];congr 1
  grind
end
theorem getD_drop{cs:List AV}{n j}:(cs.drop n).getD j .unk=cs.getD (n+j) .unk:=by grind
theorem Hw{P}{w}{κ}{pv}{t}{b off}{cs}{v}(u:Nat->Value)
  (c:∀j,j<cs.length->w.cell? ⟨b,off+j,none⟩=some (u j)) (r:∀j,j<cs.length->Rel w κ pv (cs.getD j .unk) (u j)) (h:jB P t cs=some v):
  ∃x,(loadVar t ⟨b,off,none⟩).run P w=.ok x w/\Rel w κ pv v x:=by
 have l:∀n,n<=cs.length->(loadCells ⟨b,off,none⟩ n).run P w=.ok ((List.range n).map u).toArray w:=λn d=>by have:=run_loadCellsFrom (P:=P) (w:=w) (b:=b) (off:=off) u n 0 #[] (λj f=>by simpa using c j (by omega));simpa[loadCells]using this
 unfold jB at h;split at h
 ·rename_i a;split at h
  ·rename_i n d;have k:n<=cs.length->∃x,(loadVar t ⟨b,off,none⟩).run P w=.ok x w/\Rel w κ pv (.agg (cs.take n)) x:=λhle=>by
    refine⟨.agg ((List.range n).map u).toArray,by simp[loadVar,Ng a,nU d,l n hle],.agg (by simp;omega) λj f=>?_⟩
    grind
   grind
  cases h
 ·rename_i a;split at h
  ·cases h
  cases h;have e:=c 0 (by simp);have g:=r 0 (by simp);simp only[qAP]at e;exact⟨u 0,by simp[loadVar,Ng a,e],by simpa[List.getD]using g⟩
 cases h
end
section
open Go
theorem wf_wrap k n:qc k (k.wrap n):=by cases k<;>simp only[qc,IntKind.wrap,IntKind.min,IntKind.max,IntKind.signed,IntKind.bits]<;>simp<;>(try split)<;>omega
theorem aCM{k a}(h:qc k a)(b:Int):qc k (a.tmod b):=by
 have c:(a.tmod b).natAbs<=a.natAbs:=by rw[Int.natAbs_tmod];exact Nat.mod_le _ _
 have d:0<=a->0<=a.tmod b:=λh=>Int.tmod_nonneg b h;have e:a<=0->a.tmod b<=0:=λh=>by
  have:=Int.tmod_nonneg b (show 0<= -a by omega)
  simp_all
 have f:k.min<=0/\0<=k.max:=by cases k<;>decide
 unfold qc at *
 grind
def aib(P:Program)(t:TypeId):Bool:=match P.underlying t with|some (.pointer _)=>true|_=>false
def acf(P:Program)(t:TypeId):Bool:=match P.underlying t with|some .bool=>true|_=>false
def KL:AV->Option Bool| .nilp=>some true| .ptr _ _=>some false| .eptr _=>some false| .flist n=>some n.isEmpty|_=>none
def lZ(P:Program)(op:BinOp)(t:TypeId):AV->AV->Option AV
 | .int k a,.int c b=>if k=c then(match op with
  | .add=>some (.int k (k.wrap (a+b)))| .sub=>some (.int k (k.wrap (a - b)))| .mul=>some (.int k (k.wrap (a*b)))| .quo=>if b=0 then none else some (.int k (k.wrap (a.tdiv b)))| .rem=>if b=0 then none else some (.int k (a.tmod b))| .eql=>some (.bool (a==b))| .neq=>some (.bool (a !=b))| .lss=>some (.bool (decide (a<b)))| .leq=>some (.bool (decide (a<=b)))| .gtr=>some (.bool (decide (b<a)))| .geq=>some (.bool (decide (b<=a)))| .shl=>if 0<=b/\b<=k.bits then some (.int k (k.wrap (a*2^b.toNat)))else none| .shr=>if 0<=b/\b<=k.bits then some (.int k (a.fdiv (2^b.toNat)))else none|_=>none)else none
 | .str a,.str b=>match op with
  | .add=>if a.length+b.length<=9223372036854775807 then some (.str (a++b))else none| .eql=>some (.bool (a==b))| .neq=>some (.bool (!(a==b)))| .lss=>some (.bool (Op.bytesLess a b))| .leq=>some (.bool (Op.bytesLess a b ||a==b))
  | .gtr=>some (.bool (!(Op.bytesLess a b ||a==b)))
  | .geq=>some (.bool (!(Op.bytesLess a b)))|_=>none
 | .bool a,.bool b=>if acf P t then(match op with| .eql=>some (.bool (a==b))| .neq=>some (.bool (!(a==b)))|_=>none)else none
 |x,.nilp=>if aib P t then(match op,KL x with| .eql,some b=>some (.bool b)| .neq,some b=>some (.bool (!b))|_,_=>none)else none
 |_,_=>none
section
variable {P:Program}{w:World}{κ:aM}{pv:bJ}
theorem fM{op t x y k c a b}:(eqGuard op t x y (.int k a) (.int c b)).run P w=.ok () w:=by unfold eqGuard;cases op<;>simp
theorem Rz{op t x y a b}:(eqGuard op t x y (.string a) (.string b)).run P w=.ok () w:=by unfold eqGuard;cases op<;>simp
theorem Qd{op t x y a b}:(eqGuard op t x y (.bool a) (.bool b)).run P w=.ok () w:=by unfold eqGuard;cases op<;>simp
theorem Q0{op t x y a b}:(eqGuard op t x y (.pointer a) (.pointer b)).run P w=.ok () w:=by unfold eqGuard;cases op<;>simp
theorem run_equal_bool{t a b}(u:P.underlying t=some .bool):(Op.equal t (.bool a) (.bool b)).run P w=.ok (a==b) w:=by
 have h:∀d,(Op.equalIn (d+1) t (.bool a) (.bool b)).run P w=.ok (a==b) w:=λd=>by simp[Op.equalIn,run_underlying u]
 exact h 9999
theorem XG{t e a}(u:P.underlying t=some (.pointer e)):(Op.equal t (.pointer a) (.pointer none)).run P w=.ok a.isNone w:=by
 have h:∀d,(Op.equalIn (d+1) t (.pointer a) (.pointer none)).run P w=.ok a.isNone w:=λd=>by cases a<;>simp[Op.equalIn,run_underlying u]
 exact h 9999
theorem al2{x u b}(h:Rel w κ pv x u)(c:KL x=some b):∃a,u=.pointer a/\a.isNone=b:=by cases h<;>simp[KL]at c<;>subst c<;>exact⟨_,rfl,rfl⟩
theorem aD4{k a}(h:qc k a) n:qc k (a.fdiv (2^n)):=by
 have c:k.min<=0/\0<=k.max:=by cases k<;>decide
 obtain⟨d,f⟩:=h;have p:(0:Int)<2^n:=Int.pow_pos (by decide);have e:a.fdiv (2^n)=a/2^n:=qDj _ (qDt p);rw[e];constructor
 ·by_cases b:0<=a
  ·exact qDS c.1 (Int.ediv_nonneg b (qDt p))
  refine qDS d ?_;refine(Int.le_ediv_iff_mul_le p).2 ?_;have:a*2^n<=a*1:=Int.mul_le_mul_of_nonpos_left (by omega) (by omega);omega
 by_cases b:0<=a;·exact qDS (Int.ediv_le_self _ b) f
 have:=Int.ediv_le_ediv p (show a<=0 by omega);rw[Int.zero_ediv]at this
 grind
theorem av5{op}{t}{x y}{o p v}{j l}(d:Rel w κ pv o j)(g:Rel w κ pv p l)(h:lZ P op t o p=some v):
  ∃u,(eqGuard op t x y j l).run P w=.ok () w/\(binOp op t j l).run P w=.ok u w/\Rel w κ pv v u:=by
 unfold lZ at h;split at h
 ·cases d;cases g;split at h
  ·rename_i q;subst q;rename_i k a b _ _;cases op<;>simp only[Option.some.injEq,reduceCtorEq]at h
   case add=>subst h;exact⟨_,fM,by simp[binOp,Op.intArith],.int (wf_wrap _ _)⟩
   case sub=>subst h;exact⟨_,fM,by simp[binOp,Op.intArith],.int (wf_wrap _ _)⟩
   case mul=>subst h;exact⟨_,fM,by simp[binOp,Op.intArith],.int (wf_wrap _ _)⟩
   case quo=>
    split at h;·cases h
    rename_i c;cases h;exact⟨_,fM,by simp[binOp,Op.intDiv,c],.int (wf_wrap _ _)⟩
   case rem=>
    split at h;·cases h
    rename_i c;cases h;exact⟨_,fM,by simp[binOp,Op.intDiv,c],.int (aCM ‹_› b)⟩
   case eql=>subst h;exact⟨_,fM,by simp[binOp,Op.intCmp],.bool _⟩
   case neq=>subst h;exact⟨_,fM,by simp[binOp,Op.intCmp],.bool _⟩
   case lss=>subst h;exact⟨_,fM,by simp[binOp,Op.intCmp],.bool _⟩
   case leq=>subst h;exact⟨_,fM,by simp[binOp,Op.intCmp],.bool _⟩
   case gtr=>subst h;exact⟨_,fM,by simp[binOp,Op.intCmp],.bool _⟩
   case geq=>subst h;exact⟨_,fM,by simp[binOp,Op.intCmp],.bool _⟩
   case shl=>
    split at h
    ·rename_i c;cases h;have n:¬b<0:=by omega
     have m:min b.toNat k.bits=b.toNat:=by omega
     exact⟨_,fM,by simp[binOp,Op.shift,n,m],.int (wf_wrap _ _)⟩
    cases h
   case shr=>
    split at h
    ·rename_i c;cases h;have n:¬b<0:=by omega
     have m:min b.toNat k.bits=b.toNat:=by omega
     exact⟨_,fM,by simp[binOp,Op.shift,n,m],.int (aD4 ‹_› _)⟩
    cases h
  cases h
 ·cases d with|str i=>cases g with|str c=>
    rename_i a b;cases op<;>simp only[Option.some.injEq,reduceCtorEq]at h
    case add=>
     split at h
     ·rename_i r;cases h;refine⟨.string ⟨(a++b).toArray⟩,Rz,?_,.str (by simpa using r)⟩;have e:(ByteArray.mk a.toArray).size=a.length:=by simp[ByteArray.size]
      have s:(ByteArray.mk b.toArray).size=b.length:=by simp[ByteArray.size]
      have z:(ByteArray.mk a.toArray++ByteArray.mk b.toArray)=ByteArray.mk (a++b).toArray:=by apply ByteArray.ext;simp
      simp only[binOp,Op.stringOp,e,s,z];rw[if_neg (by simp[IntKind.max,IntKind.signed,IntKind.bits];omega)];rfl
     cases h
    all_goals(subst h;exact⟨_,Rz,by simp[binOp,Op.stringOp],.bool _⟩)
 ·cases d;cases g;split at h
  ·rename_i c;have f:P.underlying t=some .bool:=by unfold acf at c;split at c<;>first|assumption|cases c
   cases op<;>simp only[Option.some.injEq,reduceCtorEq]at h
   case eql=>subst h;exact⟨_,Qd,by simp[binOp,run_equal_bool f],.bool _⟩
   case neq=>subst h;exact⟨_,Qd,by simp[binOp,run_equal_bool f],.bool _⟩
  cases h
 ·cases g;split at h
  ·rename_i c;obtain⟨e,f⟩:∃e,P.underlying t=some (.pointer e):=by unfold aib at c;split at c<;>first|exact⟨_,by assumption⟩|cases c
   split at h;·rename_i b n;cases h;obtain⟨a,rfl,i⟩:=al2 d n;exact⟨.bool b,Q0,by simp[binOp,XG f,i],.bool _⟩
   ·rename_i b n;cases h;obtain⟨a,rfl,i⟩:=al2 d n;exact⟨.bool !b,Q0,by simp[binOp,XG f,i],.bool _⟩
   cases h
  cases h
 cases h
end
end
section
open Go
def dS:AV->Option (List AV)| .agg c=>some c| .unk=>none| .tup _=>none|v=>some [v]
def kg(place:Nat->Option (Nat×Nat)):List AV->List (Nat×AV)->Option (List AV)|c,[]=>some c|c,(i,v)::r=>match place i,dS v with|some (o,s),some a=>if a.length=s/\o+s<=c.length then kg place (c.take o++a++c.drop (o+s)) r else none|_,_=>none
def D8(P:Program)(t:TypeId)(i:Nat):Option (Nat×Nat):=
 match P.underlying t with|some (.struct s)=>(s[i]?).bind λf=>(sizeT P f.type).map λn=>(f.offset,n)|_=>none
def kr(P:Program)t:=(P.info? t).bind λi=>i.zero.map λz=>z.cells.toList.map ofConst
def xV(P:Program)(t:TypeId):Bool:=match P.underlying t with|some (.struct s)=>s.toList.all λf=>(P.info? f.type).isSome|_=>false
def dQ(v:Option AV)(d t:Nat):=
 match v with|none=>some d|some (.int _ n)=>if 0<=n/\n<=t then some n.toNat else none|some _=>none
def wU:List (List AV)->Option (List UInt8)|[]=>some []|e::r=>match e with|[.int .u8 n]=>(wU r).map (UInt8.ofNat n.toNat::·)|_=>none
def aai(P:Program)(s t:TypeId):Bool:=
 match P.underlying s,P.underlying t with
 |some (.slice e),some .string=>match P.underlying e with|some (.int .u8)=>true|_=>false
 |_,_=>false
def aeF(P:Program)(t:TypeId):Option Nat:=match P.underlying t with|some (.array _ e)=>sizeT P e|_=>none
def aB(P:Program)(op:Op)(ρ:Operand->AV):Option AV:=
 match op with
 | .move x=>some (ρ x)| .assign x=>some (ρ x)| .pick c x y=>match ρ c with
  | .bool t=>some (if t then ρ x else ρ y)|_=>none
 | .nilCheck x=>match ρ x with
  | .ptr l o=>some (.ptr l o)| .eptr d=>some (.eptr d)| .func f d=>some (.func f d)| .flist (d::r)=>some (.eptr (d++[.flist r]))|_=>none
 | .binOp op t x y _=>lZ P op t (ρ x) (ρ y)| .unOp op _ x=>match op,ρ x with
  | .not,.bool b=>some (.bool (!b))| .neg,.int k n=>some (.int k (k.wrap (0 - n)))|_,_=>none
 | .fieldAddr s x f=>match zP P s f with
  |some (v,_)=>match ρ x with
   | .ptr l o=>some (.ptr l (o+v))| .eptr d=>some (.eptr (d.drop v))|_=>none
  |none=>none
 | .field s x f=>match zP P s f with
  |some (v,t)=>match ρ x with
   | .agg d=>jB P t (d.drop v)|_=>none
  |none=>none
 | .indexAddr t x i=>match ρ i with
  | .int _ n=>match P.underlying t with
   |some (.slice e)=>match ρ x,sizeT P e with
    | .slice g _,some j=>if 0<=n/\n<g.length/\(g.getD n.toNat []).length=j then some (.eptr (g.getD n.toNat []))else none| .psl l z q,some j=>if 0<=n/\n<q/\z=j then some (.ptr l (n.toNat*j))else none|_,_=>none
   |some (.array q e)=>match ρ x,sizeT P e with
    | .ptr l o,some j=>if 0<=n/\n<q then some (.ptr l (o+n.toNat*j))else none| .eptr d,some j=>if 0<=n/\n<q then some (.eptr (d.drop (n.toNat*j)))else none|_,_=>none
   |_=>none
  |_=>none
 | .index t x i=>match ρ i,ρ x with
  | .int _ n,.str s=>if isStrT P t/\0<=n/\n<s.length then some (.int .u8 (s.getD n.toNat 0).toNat)else none|_,_=>none
 | .extract x i=>match ρ x with
  | .tup C=>if i<C.length then some (C.getD i .unk)else none|_=>none
 | .slice t x w A none=>match ρ x with
  | .str s=>if isStrT P t then(match dQ (A.map ρ) s.length s.length with
   |some h=>match dQ (w.map ρ) 0 h with
    |some l=>some (.str ((s.drop l).take (h - l)))|none=>none
   |none=>none)else none
  | .slice g _=>match sliceT P t with
   |some j=>match dQ (A.map ρ) g.length g.length with
    |some h=>match dQ (w.map ρ) 0 h with
     |some l=>if l<g.length->(g.getD l []).length=j then some (.slice ((g.drop l).take (h - l)) .shared)else none|none=>none
    |none=>none
   |none=>none
  | .psl l z n=>match sliceT P t,w with
   |some _,none=>match dQ (A.map ρ) n n with|some h=>some (.psl l z h)|none=>none
   |_,_=>none
  |_=>none
 | .build t m=>if xV P t then(match kr P t with|some z=>(kg (D8 P t) z (m.toList.map λp=>(p.1,ρ p.2))).map .agg|none=>none)else(match aeF P t,kr P t with|some j,some z=>(kg (λi=>some (i*j,j)) z (m.toList.map λp=>(p.1,ρ p.2))).map .agg|_,_=>none)
 | .makeFunc (.func f) first u=>if first.size=0 then some (.func f (u.toList.map ρ))else none| .load t x=>match ρ x with
  | .eptr d=>jB P t d|_=>none
 | .convert s t x=>match ρ x,convT P s t with
  | .int _ n,some k=>some (.int k (k.wrap n))| .slice g _,none=>if aai P s t then(wU g).map .str else none|_,_=>none
 | .call {callee:=.builtin .len,args,argTypes}=>match args.toList,argTypes.toList with
  |[x],[t]=>match ρ x with
   | .str s=>if isStrT P t then some (.int .i64 s.length)else none| .slice g _=>if(sliceT P t).isSome then some (.int .i64 g.length)else none| .psl _ _ n=>if(sliceT P t).isSome then some (.int .i64 n)else none|_=>none
  |_,_=>none
 | .call {callee:=.builtin .max,args,argTypes:=_}=>match args.toList with
  |[x,y]=>match ρ x,ρ y with| .int k a,.int B b=>if k=B then some (.int k (if b>a then b else a))else none|_,_=>none
  |_=>none
 | .call {callee:=.builtin .min,args,argTypes:=_}=>match args.toList with
  |[x,y]=>match ρ x,ρ y with| .int k a,.int B b=>if k=B then some (.int k (if b<a then b else a))else none|_,_=>none
  |_=>none
 |_=>none
where
 isStrT (P:Program) (t:TypeId):Bool:=match P.underlying t with|some .string=>true|_=>false
 sliceT (P:Program) (t:TypeId):Option Nat:=match P.underlying t with|some (.slice e)=>sizeT P e|_=>none
 convT (P:Program) (s t:TypeId):Option IntKind:=match P.underlying s,P.underlying t with|some (.int _),some (.int k)=>some k|_,_=>none
end
section
open Go
section
variable {P:Program}{w:World}{κ:aM}{pv:bJ}
theorem adV{s f o t:Nat}(h:zP P s f=some (o,t)):∃a l,P.underlying s=some (.struct a)/\a[f]? =some l/\l.offset=o/\l.type=t/\∃n,sizeT P t=some (n+1):=by
 unfold zP at h
 grind
theorem adO{s f o t b off:Nat}(h:zP P s f=some (o,t)):(Instr.fieldAt s (.pointer (some ⟨b,off,none⟩)) f).run P w=.ok (.pointer (some ⟨b,off+o,none⟩)) w:=by obtain⟨d,l,u,a,rfl,rfl,n,c⟩:=adV h;simp[Instr.fieldAt,run_underlying u,a,Instr.sureAddr,fieldPlace,nU c,A9]
theorem afM{s f:Nat}{x v}{u}(h:(match zP P s f with|some (b,_)=>(match x with| .ptr l o=>some (AV.ptr l (o+b))| .eptr c=>some (.eptr (c.drop b))|_=>none)|none=>none)=some v)(d:Rel w κ pv x u):
  ∃y,(Instr.fieldAt s u f).run P w=.ok y w/\Rel w κ pv v y:=by
 split at h;·rename_i b t a;cases d with
  |ptr e=>cases h;exact⟨_,adO a,.ptr e⟩|eptr y g k m=>
   cases h;refine⟨_,adO a,.eptr (λj=>y (b+j)) ?_ ?_ ?_⟩;·intro j i;simp at i;rw[qBT];exact g _ (by omega)
   ·grind
   grind
  |_=>cases h
 cases h
theorem ax6{t f:Nat}{cs:List AV}{vs:List Value}{v:AV}(s:vs.length=cs.length)(d:∀j,j<cs.length->Rel w κ pv (cs.getD j .unk) (vs.getD j undef))(h:jB P t (cs.drop f)=some v):
  ∃y,(part t vs.toArray f).run P w=.ok y w/\Rel w κ pv v y:=by
 unfold jB at h;have k:∀n,PU P t=some true->sizeT P t=some n->n<=(cs.drop f).length->∃y,(part t vs.toArray f).run P w=.ok y w/\Rel w κ pv (.agg ((cs.drop f).take n)) y:=λn a g m=>by
  refine⟨.agg ((vs.drop f).take n).toArray,?_,.agg ?_ ?_⟩;·simp[part,Ng a,nU g]
  ·grind
  grind
 split at h;·grind
 ·rename_i a;split at h
  ·cases h
  rename_i c r o;cases h;have l:f<cs.length:=by grind
  have e:=d f l;have p:cs.getD f .unk=v:=by
   have:cs.drop f=v::r:=o;have u:=qCh (xs:=cs) (i:=f) (j:=0)
   grind
  rw[p]at e;obtain⟨y,b⟩:∃y,vs[f]? =some y:=⟨_,qAc (show f<vs.length by omega)⟩;have q:vs.getD f undef=y:=by rw[List.getD,b];rfl
  rw[q]at e;exact⟨y,by simp[part,Ng a,b],e⟩
 cases h
theorem ar5{s f:Nat}{x v}{u}(h:(match zP P s f with|some (o,t)=>(match x with| .agg c=>jB P t (c.drop o)|_=>none)|none=>none)=some v)(b:Rel w κ pv x u):
  ∃y,(Instr.field s u f).run P w=.ok y w/\Rel w κ pv v y:=by
 split at h;·rename_i o t a;cases b with|agg l r=>obtain⟨k,d,e,g,rfl,rfl,n,m⟩:=adV a;obtain⟨y,i,j⟩:=ax6 l r h;exact⟨y,by simp[Instr.field,run_underlying e,g,asAgg,i],j⟩|_=>cases h
 cases h
theorem aaT{t:Nat}(h:aB.isStrT P t=true):P.underlying t=some .string:=by unfold aB.isStrT at h;split at h<;>first|assumption|cases h
theorem KF{t n:Nat}(h:aB.sliceT P t=some n):∃e,P.underlying t=some (.slice e)/\sizeT P e=some n:=by unfold aB.sliceT at h;split at h<;>first|exact⟨_,by assumption,h⟩|cases h
theorem size_mk(s:List UInt8):(ByteArray.mk s.toArray).size=s.length:=by simp[ByteArray.size]
theorem akU{v:Option Value}{b}{t d n}{code:BoundsCode}(a:match b,v with|none,none=>True|some x,some u=>Rel w κ pv x u|_,_=>False)(h:dQ b d t=some n):
  (match v with|some u=>Instr.sliceBound u t code|none=>pure d).run P w=.ok n w:=by
 unfold dQ at h;split at h;·cases h;cases v with|none=>simp|some u=>exact a.elim
 ·rename_i k m;split at h
  ·rename_i c;cases h;cases v with|none=>exact a.elim|some u=>cases(a:Rel w κ pv _ u);simp[Instr.sliceBound,asIntOf,c]
  cases h
 cases h
theorem Ia{isS}{len cap l h}{lo hi}{alo a}
  (o:match alo,lo with|none,none=>True|some x,some u=>Rel w κ pv x u|_,_=>False)
  (i:match a,hi with|none,none=>True|some x,some u=>Rel w κ pv x u|_,_=>False) (j:len<=cap) (c:dQ a len len=some h) (h2:dQ alo 0 h=some l):
  (Instr.sliceBounds isS len cap lo hi none).run P w=.ok (l,h,cap) w/\l<=h/\h<=len:=by
 have g:dQ a len cap=some h:=by
  unfold dQ at c|-
  grind
 have d:=akU (P:=P) (code:=if isS then BoundsCode.sliceAcap else BoundsCode.sliceAlen) i g;have f:=akU (P:=P) (code:=BoundsCode.sliceB) o h2;have b:l<=h:=by
  unfold dQ at h2
  grind
 have e:h<=len:=by
  unfold dQ at c
  grind
 refine⟨?_,b,e⟩;cases lo<;>cases hi<;>simp[Instr.sliceBounds]at d f|-<;>simp[d,f]
end
end
section
open Go
theorem azK(l:List Value):∀(k off) (c:Array Value),off+k+l.length<=c.size->
  ((l.zipIdx k).foldl (λcs p=>cs.setIfInBounds (off+p.2) p.1) c).size=c.size/\
  ∀i,((l.zipIdx k).foldl (λcs p=>cs.setIfInBounds (off+p.2) p.1) c).getD i undef=if off+k<=i/\i<off+k+l.length then l.getD (i - (off+k)) undef else c.getD i undef:=by
 induction l with|nil=>intro k off c _;refine⟨by simp,λi=>?_⟩;rw[if_neg (by simp<;>omega)];simp|cons x l a=>
  intro k off c h;simp only[qAo]at h;obtain⟨b,d⟩:=a (k+1) off (c.setIfInBounds (off+k) x) (by simp;omega);simp only[List.zipIdx_cons,qBg];refine⟨by rw[b];simp,λi=>?_⟩;rw[d i];by_cases e:off+(k+1)<=i/\i<off+(k+1)+l.length;·grind
  rw[if_neg e];by_cases f:i=off+k
  ·subst f;rw[rC (by omega),if_pos (by simp)]
   grind
  rw[mM (by omega),if_neg (by simp;omega)]
section
variable {P:Program}{w:World}{κ:aM}{pv:bJ}
theorem K8{v}{u}{cs}(h:Rel w κ pv v u)(c:dS v=some cs):u.cells.size=cs.length/\∀j,j<cs.length->Rel w κ pv (cs.getD j .unk) (u.cells.getD j undef):=by
 cases h with|agg b d=>cases c;exact⟨by simpa[Value.cells]using b,λj a=>by simpa[Value.cells,qAq,List.getD]using d j a⟩|unk=>cases c|tup=>cases c|_=>
  cases c;refine⟨by simp[Value.cells],λj a=>?_⟩;simp at a;obtain rfl:j=0:=by omega
  first
   |exact .int ‹_›|exact .bool _|exact .str ‹_›|exact .nilp|exact .ifc _ _|exact .ptr ‹_›|exact .eptr _ ‹_› ‹_› ‹_›|exact .slice _ _ _ _ ‹_› ‹_› ‹_› ‹_› ‹_› ‹_› ‹_› ‹_›|exact .func ‹_› ‹_›|exact .mapr ‹_›|exact .psl ‹_› ‹_› ‹_›|exact .flnil|exact .flcons _ _ ‹_› ‹_› ‹_› ‹_› ‹_›|exact .nilFunc
theorem WJ{place}:∀r a cs out c,
  r.length=a.length->(∀j,j<r.length->(r.getD j (0,.unk)).1=(a.getD j (0,undef)).1/\Rel w κ pv (r.getD j (0,.unk)).2 (a.getD j (0,undef)).2)->
  c.size=cs.length->(∀j,j<cs.length->Rel w κ pv (cs.getD j .unk) (c.getD j undef))->kg place cs r=some out->
  ∃b,Instr.fill place c a=some b/\b.size=out.length/\∀j,j<out.length->Rel w κ pv (out.getD j .unk) (b.getD j undef):=by
 intro r
 induction r with
 |nil=>
  intro a cs out c d _ z k h;cases a with
  |nil=>simp only[kg,Option.some.injEq]at h;subst h;exact⟨c,rfl,z,k⟩|cons=>simp at d
 |cons p r H=>
  intro a cs out c d D z k h;cases a with|nil=>simp at d|cons q a=>
   obtain⟨i,v⟩:=p;obtain⟨N,u⟩:=q;have E:=D 0 (by simp);simp only[List.getD,qAF,qAv]at E;obtain⟨rfl,I⟩:=E;simp only[kg]at h;split at h
   ·rename_i o s e m t;split at h
    ·rename_i n;obtain⟨O,P⟩:=n;obtain⟨J,x⟩:=K8 I t;have F:=azK u.cells.toList 0 o c (by simp;omega);simp only[qAP,qCg]at F;obtain⟨y,A⟩:=F;have l:(cs.take o++e++cs.drop (o+s)).length=cs.length:=by simp;omega
     have:=H a _ out ((u.cells.toList.zipIdx 0).foldl (λcs p=>cs.setIfInBounds (o+p.2) p.1) c) (by simpa using d)
      (λj g=>by have:=D (j+1) (by simpa using g);simpa[List.getD]using this) (by rw[y,z,l]) ?_ h
     ·obtain⟨b,K,L,M⟩:=this;refine⟨b,?_,L,M⟩;have f:u.cells.zipIdx.foldl (λcs (c,j)=>cs.setIfInBounds (o+j) c) c=(u.cells.toList.zipIdx 0).foldl (λcs p=>cs.setIfInBounds (o+p.2) p.1) c:=by rw[<-Array.foldl_toList];simp
      simp only[Instr.fill,m];rw[if_neg (by simp;omega)];rw[f];exact K
     intro j g;rw[l]at g;rw[A j];by_cases G:o<=j/\j<o+u.cells.size
     ·rw[if_pos G];have:=x (j - o) (by omega);have B:(cs.take o++e++cs.drop (o+s)).getD j .unk=e.getD (j - o) .unk:=by simp only[List.getD];rw[qAm,qAk (by simp;omega),qAi (by simp;omega)];simp[show min o cs.length=o by omega]
      rw[B];simpa[qAq,List.getD]using this
     rw[if_neg G];have B:(cs.take o++e++cs.drop (o+s)).getD j .unk=cs.getD j .unk:=by
      simp only[List.getD];by_cases C:j<o;·rw[qAm,qAi (by simp;omega)];simp[qBt,C]
      rw[qAk (by simp;omega)];simp only[qAf,qAB,qCh];congr 2;omega
     rw[B];exact k j g
    cases h
   cases h
end
end
section
open Go
section
variable {P:Program}{w:World}{κ:aM}{pv:bJ}
theorem QV{t e sz n b off:Nat}{k}{m:Int}{len cap:Nat}(h:P.underlying t=some (.slice e))(hs:sizeT P e=some sz)(h0:0<=m)(a:m<len)(c:m.toNat=n):
  (Instr.indexAt t (.slice (some ⟨b,off,none⟩) len cap) (.int k m)).run P w=.ok (.pointer (some ⟨b,off+n*sz,none⟩)) w:=by subst c;simp[Instr.indexAt,asIntOf,run_underlying h,h0,a,nU hs,A9]
theorem Ro{t e sz n b off len:Nat}{k}{m:Int}(h:P.underlying t=some (.array len e))(hs:sizeT P e=some sz)(h0:0<=m)(a:m<len)(c:m.toNat=n):
  (Instr.indexAt t (.pointer (some ⟨b,off,none⟩)) (.int k m)).run P w=.ok (.pointer (some ⟨b,off+n*sz,none⟩)) w:=by subst c;simp[Instr.indexAt,asIntOf,run_underlying h,Instr.sureAddr,h0,a,nU hs,A9]
theorem agU{t:Nat}{x i v}{u K}(r:Rel w κ pv x u)(hi:Rel w κ pv i K)(h:aB P (.indexAddr t (.tmp 0) (.tmp 1)) (λo=>match o with| .tmp 0=>x|_=>i)=some v):
  ∃y,(Instr.indexAt t u K).run P w=.ok y w/\Rel w κ pv v y:=by
 simp only[aB]at h;cases hi with
 |@int k n O=>
  simp only at h;split at h;·rename_i e p;cases s:sizeT P e with
   |none=>rw[s]at h;cases r<;>cases h|some A=>
    rw[s]at h;cases r with
    |@slice Q R a B b S C f D E L T U V W M=>
     dsimp only at h;split at h
     ·rename_i g;cases h;obtain⟨F,G,X⟩:=g;have d:n.toNat<Q.length:=by omega
      have H:C=A:=by rw[<-D _ d];exact X
      subst H;have I:=E (by intro q;subst q;simp at d);subst I;refine⟨_,QV p s F G rfl,.eptr (f n.toNat) ?_ ?_ ?_⟩;·intro j m;rw[qBT];exact U _ _ d (by omega)
      ·intro j m;rw[qBT];exact V _ _ d (by omega)
      exact λj m=>W _ _ d (by omega)
     cases h
    |@psl l z J B a Y Z M=>
     dsimp only at h;split at h
     ·rename_i g;cases h;obtain⟨F,G,rfl⟩:=g;obtain⟨_,⟨_,N⟩|⟨b,c,e,hb,I,_,_⟩⟩:=M
      ·omega
      subst I;refine⟨_,QV p s F G rfl,?_⟩;rw[qAK];exact .ptr hb
     cases h
    |_=>cases h
  ·rename_i J e p;cases s:sizeT P e with
   |none=>rw[s]at h;cases r<;>cases h|some A=>
    rw[s]at h;cases r with
    |ptr hl=>
     dsimp only at h;split at h;·rename_i g;cases h;exact⟨_,Ro p s g.1 g.2 rfl,.ptr hl⟩
     cases h
    |eptr f D E L=>
     dsimp only at h;split at h
     ·rename_i g;cases h;refine⟨_,Ro p s g.1 g.2 rfl,.eptr (λj=>f (n.toNat*A+j)) ?_ ?_ ?_⟩
      ·intro j m;simp at m;rw[qBT];exact D _ (by omega)
      ·intro j m;simp at m;rw[qBT];exact E _ (by omega)
      intro j m;simp at m;rw[getD_drop];exact L _ (by omega)
     cases h
    |_=>cases h
  cases h
 |_=>cases h
theorem asI{t:Nat}{x i v}{u a}(h:(match i,x with| .int _ n,.str s=>if aB.isStrT P t/\0<=n/\n<s.length then some (AV.int .u8 (s.getD n.toNat 0).toNat)else none|_,_=>none)=some v) (b:Rel w κ pv x u) (hi:Rel w κ pv i a):∃y,(Instr.index t u a).run P w=.ok y w/\Rel w κ pv v y:=by
 cases hi with
 |int f=>cases b with
  |str o=>
   rename_i k n s;simp only at h;split at h
   ·rename_i c;cases h;obtain⟨d,g,p⟩:=c;refine⟨.int .u8 (s.getD n.toNat 0).toNat,?_,.int ?_⟩
    ·have l:n.toNat<s.length:=by omega
     have e:(ByteArray.mk s.toArray)[n.toNat]? =some (s.getD n.toNat 0):=by
      have j:n.toNat<(ByteArray.mk s.toArray).size:=by rw[size_mk];exact l
      rw[getElem?_pos (ByteArray.mk s.toArray) n.toNat j];simp only[List.getD,qAc l,qAv];rfl
     simp[Instr.index,asIntOf,run_underlying (aaT d),g,e]
    have:=(s.getD n.toNat 0).toNat_lt;generalize (s.getD n.toNat 0).toNat=m at *;simp only[qc,IntKind.min,IntKind.max,IntKind.signed,IntKind.bits];simp;omega
   cases h
  |_=>cases h
 |_=>cases b<;>cases h
theorem asi{t l d sz:Nat}{es}{tag}{a}{len cap}(n:Rel w κ pv (.slice es tag) (.slice a len cap))(z:aB.sliceT P t=some sz)(q:l<=d)(g:d<=es.length)
  (r:l<es.length->(es.getD l []).length=sz):
  Rel w κ pv (.slice ((es.drop l).take (d - l)) .shared) (.slice (if cap=l then a else a.map (·.add (l*sz))) (d - l) (cap - l)):=by
 cases n with|slice b o s f m u C v y A B D=>
  have h:((es.drop l).take (d - l)).length=d - l:=by simp;omega
  have x:∀i,i<d - l->((es.drop l).take (d - l)).getD i []=es.getD (l+i) []:=λi c=>by simp[c]
  have:=Rel.slice (w:=w) (κ:=κ) (pv:=pv) (es:=(es.drop l).take (d - l)) (tag:=.shared) (a:=if cap=l then a else a.map (·.add (l*sz))) (cap:=cap - l) b (o+l*s) s (λi j=>f (l+i) j)
   (λi c=>by rw[h]at c;rw[x i c];exact m _ (by omega))
   (λhne=>by
    have p:0<d - l:=by rw[<-h];exact qCt.2 hne
    rw[if_neg (by omega),u (by intro e;subst e;simp at g;omega),qAx,A9];have:s=sz:=by rw[<-m l (by omega)];exact r (by omega)
    rw[this])
   (by rw[h];omega) (by rw[h];omega)
   (λi j c k=>by rw[h]at c;have:=y (l+i) j (by omega) k;rw[qAV]at this;rw[show o+l*s+(i*s+j)=o+(l*s+i*s+j)from by omega];exact this)
   (λi j c k=>by rw[h]at c;have:=A (l+i) j (by omega) k;rw[qAV]at this;rw[show o+l*s+(i*s+j)=o+(l*s+i*s+j)from by omega];exact this)
   (λi j c k=>by rw[h]at c;rw[x i c];exact B (l+i) j (by omega) k) trivial
  grind
theorem aaG{ρ}{ev}(h:∀x,Rel w κ pv (ρ x) (ev x))(o:Option Operand):match o.map ρ,o.map ev with|none,none=>True|some x,some u=>Rel w κ pv x u|_,_=>False:=by
 cases o with|none=>trivial|some x=>exact h x
end
end
section
open Go
section
variable {P:Program}{w:World}{κ:aM}{pv:bJ}
theorem avq{s t:Nat}{k}(h:aB.convT P s t=some k):∃a,P.underlying s=some (.int a)/\P.underlying t=some (.int k):=by
 unfold aB.convT at h
 grind
theorem run_places{fs:Array Field}{places}(h:∀i:Nat,(fs[i]?).map (λf=>(sizeT P f.type).map λn=>(f.offset,n))=(places[i]?).map some)(hs:fs.size=places.size):
  (fs.mapM λ(f:Field)=>do pure (f.offset,<-sizeOf f.type)).run P w=.ok places w:=by
 have k:∀(l:List Field) (p:List (Nat×Nat)),l.length=p.length->(∀i:Nat,(l[i]?).map (λf=>(sizeT P f.type).map λn=>(f.offset,n))=(p[i]?).map some)->
   (l.mapM λ(f:Field)=>do pure (f.offset,<-sizeOf f.type):Sem (List (Nat×Nat))).run P w=.ok p w:=by
  intro l
  induction l with
  |nil=>intro p b _;cases p with|nil=>simp|cons=>simp at b
  |cons f l d=>
   intro p b c;cases p with|nil=>simp at b|cons q p=>
    have a:=c 0;simp only[qAF,qAx]at a;cases s:sizeT P f.type with|none=>rw[s]at a;cases a|some n=>rw[s]at a;simp at a;have:=d p (by simpa using b) (λi=>by simpa using c (i+1));rw[List.mapM_cons];simp only[Sem.run_bind,nU s,Result.andThen_ok,Sem.run_pure,this,a]
 have:=k fs.toList places.toList (by simpa using hs) (λi=>by simpa using h i);rw[qCb]
 simp_all
theorem asw{t:Nat}{ρ:Operand->AV}{ev:Operand->Value}{a:Array (Nat×Operand)}{z cs:List AV}(o:∀x,Rel w κ pv (ρ x) (ev x))(s:xV P t=true)(b:kr P t=some z)
  (h:kg (D8 P t) z (a.toList.map λp=>(p.1,ρ p.2))=some cs):∃y,(Instr.build t (a.map λp=>(p.1,ev p.2))).run P w=.ok y w/\Rel w κ pv (.agg cs) y:=by
 unfold xV at s;split at s;·rename_i g u;unfold kr at b;cases A:P.info? t with|none=>rw[A]at b;cases b|some i=>
   rw[A]at b;simp only[qAa]at b;cases v:i.zero with
   |none=>rw[v]at b;cases b|some n=>
    rw[v]at b;simp at b;subst b;have m:∀f∈g.toList,(P.info? f.type).isSome:=λf d=>qAJ.1 s f d
    let l:Array (Nat×Nat):=(g.toList.map λf=>(f.offset,(sizeT P f.type).getD 0)).toArray
    have q:∀f∈g.toList,sizeT P f.type=some ((sizeT P f.type).getD 0):=λf d=>by
     have:=m f d;unfold sizeT;cases C:P.info? f.type with
     |none=>rw[C]at this;cases this|some x=>rfl
    have c:∀i:Nat,D8 P t i=l[i]?:=λi=>by
     simp only[D8]
     grind
    have B:=run_places (P:=P) (w:=w) (fs:=g) (places:=l) (λi=>by
     rw[<-c i];simp only[D8,u];rw[<-qCJ];cases d:g.toList[i]? with|none=>simp|some f=>simp;rw[q f (qAG d)];rfl) (by simp[l])
    have d:=WJ (w:=w) (κ:=κ) (pv:=pv) (place:=λi=>l[i]?) (a.toList.map λp=>(p.1,ρ p.2)) (a.toList.map λp=>(p.1,ev p.2)) (n.cells.toList.map ofConst) cs n.cells (by simp)
     (λj k=>by simp at k;simp only[List.getD,qAH,qAc k,qAx,qAv];exact⟨trivial,o _⟩) (by simp)
     (λj k=>by
      simp at k;have:(n.cells.toList.map ofConst).getD j .unk=ofConst (n.cells.getD j undef):=by simp_all
      rw[this];exact wz _)
     (by have e:D8 P t=λi=>l[i]?:=funext c;rw[<-e];exact h)
    obtain⟨r,F,D,E⟩:=d;refine⟨.agg r,?_,?_⟩
    ·have e:(a.map λp=>(p.1,ev p.2)).toList=a.toList.map λp=>(p.1,ev p.2):=by simp
     simp only[Instr.build,zeroValue,typeInfo,Sem.run_bind,run_underlying u]
     simp_all
    have e:r=r.toList.toArray:=by simp
    rw[e];refine .agg (by simpa using D) λj k=>?_;have:=E j k;simpa[qAq,List.getD]using this
 cases s
theorem Rel.sH{k n u}(h:Rel w κ pv (.int k n) u):u=.int k n/\qc k n:=by cases h;exact⟨rfl,‹_›⟩
theorem Rel.O9{b u}(h:Rel w κ pv (.bool b) u):u=.bool b:=by cases h;rfl
theorem Rel.zZ{s u}(h:Rel w κ pv (.str s) u):u=.string ⟨s.toArray⟩/\s.length<=9223372036854775807:=by cases h;exact⟨rfl,‹_›⟩
theorem Rel.qm{l o u}(h:Rel w κ pv (.ptr l o) u):∃b,u=.pointer (some ⟨b,o,none⟩)/\at? κ l=some b:=by cases h;exact⟨_,rfl,‹_›⟩
theorem Rel.aq3{cs}{u}(h:Rel w κ pv (.eptr cs) u):∃(b o:Nat) (y:Nat->Value),u=.pointer (some ⟨b,o,none⟩)/\(∀j,j<cs.length->¬pv b (o+j))/\(∀j,j<cs.length->w.cell? ⟨b,o+j,none⟩=some (y j))/\
  ∀j,j<cs.length->Rel w κ pv (cs.getD j .unk) (y j):=by cases h with|eptr y a c d=>exact⟨_,_,y,rfl,a,c,d⟩
theorem Rel.lu{es}{t}{u}(h:Rel w κ pv (.slice es t) u):∃a c,u=.slice a es.length c/\es.length<=c/\es.length<=9223372036854775807:=by cases h with|slice _ _ _ _ _ _ b d _ _ _ _=>exact⟨_,_,rfl,b,d⟩
theorem Rel.Jr{f}{cs}{u}(h:Rel w κ pv (.func f cs) u):∃v:List Value,u=.func (.func f) #[] v.toArray/\v.length=cs.length/\∀j,j<cs.length->Rel w κ pv (cs.getD j .unk) (v.getD j undef):=by cases h with|func a b=>exact⟨_,rfl,a,b⟩
theorem Rel.aky{cs}{u}(h:Rel w κ pv (.tup cs) u):∃v:List Value,u=.tuple v.toArray/\v.length=cs.length/\∀j,j<cs.length->Rel w κ pv (cs.getD j .unk) (v.getD j undef):=by cases h with|tup a b=>exact⟨_,rfl,a,b⟩
theorem Rel.auI{cs}{u}(h:Rel w κ pv (.agg cs) u):∃v:List Value,u=.agg v.toArray/\v.length=cs.length/\∀j,j<cs.length->Rel w κ pv (cs.getD j .unk) (v.getD j undef):=by cases h with|agg a b=>exact⟨_,rfl,a,b⟩
theorem ad1:∀{es:List (List AV)} {ys:List UInt8},wU es=some ys->∃x:List Int,x.length=es.length/\(∀i,i<es.length->es.getD i []=[.int .u8 (x.getD i 0)])/\ys=x.map λn=>UInt8.ofNat n.toNat
 |[],ys,h=>by simp only[wU,Option.some.injEq]at h;subst h;exact⟨[],rfl,λi b=>(by cases b),rfl⟩|e::r,ys,h=>by
  simp only[wU]at h;split at h;·rename_i n;cases a:wU r with|none=>rw[a]at h;cases h|some z=>
    rw[a]at h;simp at h;subst h;obtain⟨x,c,f,d⟩:=ad1 a;refine⟨n::x,by simp[c],λi b=>?_,by simp[d]⟩
    grind
  cases h
theorem ayv xs:strOfNums xs=⟨(xs.map λn=>UInt8.ofNat n.toNat).toArray⟩:=by simp[strOfNums]
theorem ase{s t:Nat}{es}{y}{v}{ys}(A:Rel w κ pv (.slice es y) v)(B:aai P s t=true)(C:wU es=some ys):∃u,(convert s t v).run P w=.ok u w/\Rel w κ pv (.str ys) u:=by
 obtain⟨e,d,f,g⟩:∃e,P.underlying s=some (.slice e)/\P.underlying e=some (.int .u8)/\P.underlying t=some .string:=by
  unfold aai at B
  grind
 obtain⟨x,q,D,rfl⟩:=ad1 C;cases A with|@slice _ _ a c b o E u J F K G L H I _=>
  have l:(x.map λn=>UInt8.ofNat n.toNat).length<=9223372036854775807:=by simp;omega
  refine⟨.string ⟨(x.map λn=>UInt8.ofNat n.toNat).toArray⟩,?_,.str l⟩;by_cases h:es=[];·subst h;have j:x=[]:=qAI.1 (by simpa using q);subst j;cases a with|none=>rw[run_convert_bytes_nil w s e d f _ _ t g];rfl|some p=>rw[run_convert_bytes_string w s t e _ _ _ d f g,run_bytesToString w p _ c [] (by simp[loadCells,loadCellsFrom])];rfl
  rw[F h];have z:E=1:=by
   have M:0<es.length:=qCt.2 h
   grind
  subst z;rw[run_convert_bytes_arg w s e d f b o es.length c x q (λi k=>by have r:=H i 0 k (by omega);have m:=I i 0 k (by omega);rw[D i k]at m;simp at m;simp at r;rw[r];have:=m.sH.1;rw[this];simp[List.getD]) t g,ayv]
theorem axr{t sz:Nat}{ρ:Operand->AV}{ev:Operand->Value}{a:Array (Nat×Operand)}{z cs}(f:∀x,Rel w κ pv (ρ x) (ev x))(s:aeF P t=some sz)(b:kr P t=some z)
  (h:kg (λi=>some (i*sz,sz)) z (a.toList.map λp=>(p.1,ρ p.2))=some cs):∃y,(Instr.build t (a.map λp=>(p.1,ev p.2))).run P w=.ok y w/\Rel w κ pv (.agg cs) y:=by
 unfold aeF at s;split at s;·rename_i n e u;unfold kr at b;cases k:P.info? t with
  |none=>rw[k]at b;cases b|some i=>
   rw[k]at b;simp only[qAa]at b;cases v:i.zero with
   |none=>rw[v]at b;cases b|some d=>
    rw[v]at b;simp at b;subst b;have l:=WJ (w:=w) (κ:=κ) (pv:=pv) (place:=λi=>some (i*sz,sz)) (a.toList.map λp=>(p.1,ρ p.2)) (a.toList.map λp=>(p.1,ev p.2)) (d.cells.toList.map ofConst) cs d.cells (by simp)
     (λj c=>by simp at c;simp only[List.getD,qAH,qAc c,qAx,qAv];exact⟨trivial,f _⟩) (by simp)
     (λj c=>by
      have:(d.cells.toList.map ofConst).getD j .unk=ofConst (d.cells.getD j undef):=by simp_all
      rw[this];exact wz _) h
    obtain⟨g,r,m,o⟩:=l;refine⟨.agg g,?_,?_⟩
    ·have q:(a.map λp=>(p.1,ev p.2)).toList=a.toList.map λp=>(p.1,ev p.2):=by simp
     simp only[Instr.build,zeroValue,typeInfo,Sem.run_bind,Result.andThen_ok,run_underlying u,nU s]
     simp_all
    have q:g=g.toList.toArray:=by simp
    refine .agg (by simpa using m) λj c=>?_;have:=o j c;simpa[qAq,List.getD]using this
 cases s
theorem avz{o}{ρ}{ev}{v}(d:∀x,Rel w κ pv (ρ x) (ev x))(h:aB P o.op ρ=some v):
  ∃u,(execOp ev o).run P w=.ok (.value u) w/\Rel w κ pv v u:=by
 obtain⟨dst,op,ty,pos,after,guard⟩:=o;cases op with
 |move x=>cases h;exact⟨_,by simp[execOp],d x⟩|assign x=>cases h;exact⟨_,by simp[execOp],d x⟩|pick c x y=>
  simp only[aB]at h;have g:=d c;split at h
  ·rename_i t ht;cases h;rw[ht]at g;have:=g.O9;cases t
   ·exact⟨ev y,by simp[execOp,this,asBool],d y⟩
   exact⟨ev x,by simp[execOp,this,asBool],d x⟩
  cases h
 |nilCheck x=>
  simp only[aB]at h;have g:=d x;split at h
  ·rename_i l o ht;cases h;rw[ht]at g;obtain⟨b,e,_⟩:=g.qm;exact⟨ev x,by simp[execOp,e],g⟩
  ·rename_i cs ht;cases h;rw[ht]at g;obtain⟨b,off,y,e,_⟩:=g.aq3;exact⟨ev x,by simp[execOp,e],g⟩
  ·rename_i f cs ht;cases h;rw[ht]at g;obtain⟨vs,e,_⟩:=g.Jr;exact⟨ev x,by simp[execOp,e],g⟩
  ·rename_i cs r ht;cases h;rw[ht]at g;cases hev:ev x with
   |pointer p=>
    rw[hev]at g;cases g with
    |@flcons _ _ b off u y h1 h2 h3 h4 h5=>
     refine⟨.pointer (some ⟨b,off,none⟩),by simp[execOp,hev],?_⟩;refine .eptr (λj=>if j<cs.length then u j else y) (λj hj=>h1 j (by simp at hj;omega)) (λj hj=>?_) (λj hj=>?_)
     ·by_cases hlt:j<cs.length
      ·simp only[hlt,if_true];exact h2 j hlt
      have:j=cs.length:=by simp at hj;omega
      subst this;simp only[qDk,if_false];exact h3
     by_cases hlt:j<cs.length
     ·simp only[hlt,if_true];have:(cs++[AV.flist r]).getD j .unk=cs.getD j .unk:=by simp[List.getD,qAi hlt]
      rw[this];exact h4 j hlt
     have:j=cs.length:=by simp at hj;omega
     subst this;simp only[qDk,if_false];have:(cs++[AV.flist r]).getD cs.length .unk=.flist r:=by simp[List.getD]
     rw[this];exact h5
   |_=>rw[hev]at g;cases g
  cases h
 |binOp op t x y ty2=>
  simp only[aB]at h;obtain⟨u,h1,h2,h3⟩:=av5 (x:=x) (y:=y) (d x) (d y) h;exact⟨u,by simp[execOp,h1,h2],h3⟩
 |unOp op t x=>
  simp only[aB]at h;have g:=d x;split at h
  ·rename_i b ht;cases h;rw[ht]at g;exact⟨.bool !b,by simp[execOp,g.O9,Op.unary],.bool _⟩
  ·rename_i k n ht;cases h;rw[ht]at g;exact⟨_,by simp[execOp,g.sH.1,Op.unary,Op.intArith];rfl,by have:=wf_wrap k (0 - n);simpa using Rel.int this⟩
  cases h
 |fieldAddr s x f=>
  obtain⟨y,h1,h2⟩:=afM (P:=P) h (d x);exact⟨y,by simp[execOp,h1],h2⟩
 |field s x f=>
  obtain⟨y,h1,h2⟩:=ar5 (P:=P) h (d x);exact⟨y,by simp[execOp,h1],h2⟩
 |indexAddr t x i=>
  obtain⟨y,h1,h2⟩:=agU (d x) (d i) h;exact⟨y,by simp[execOp,h1],h2⟩
 |index t x i=>
  obtain⟨y,h1,h2⟩:=asI (P:=P) h (d x) (d i);exact⟨y,by simp[execOp,h1],h2⟩
 |extract x i=>
  simp only[aB]at h;have g:=d x;split at h
  ·rename_i vs ht;split at h
   ·rename_i hi;cases h;rw[ht]at g;obtain⟨us,e,hl,hr⟩:=g.aky;obtain⟨y,hy⟩:∃y,us[i]? =some y:=⟨_,qAc (show i<us.length by omega)⟩;have e2:=hr i hi;have e3:us.getD i undef=y:=by rw[List.getD,hy];rfl
    rw[e3]at e2;exact⟨y,by simp[execOp,e,Instr.extract,hy],e2⟩
   cases h
  cases h
 |slice t x lo hi mx=>
  cases mx with
  |some m=>cases h
  |none=>
   simp only[aB]at h;have g:=d x;split at h
   ·rename_i s ht;rw[ht]at g;obtain⟨e,hl⟩:=g.zZ;split at h
    ·rename_i hst;split at h
     ·rename_i h' hh;split at h
      ·rename_i l hl';cases h;obtain⟨b1,b2,b3⟩:=Ia (P:=P) (w:=w) (κ:=κ) (pv:=pv) (isS:=false) (aaG d lo) (aaG d hi) (qAd _) hh hl';refine⟨.string ⟨((s.drop l).take (h' - l)).toArray⟩,?_,.str (by simp;omega)⟩;have e2:(ByteArray.mk s.toArray).extract l h'=⟨((s.drop l).take (h' - l)).toArray⟩:=by rw[Lib.extract_eq]
       simp only[execOp,Instr.sliceAt,Instr.slice,e,Sem.run_bind,run_underlying (aaT hst),Result.andThen_ok,size_mk,qBW];simp[b1,e2]
      cases h
     cases h
    cases h
   ·rename_i es tag ht;rw[ht]at g;split at h
    ·rename_i sz hsz;split at h
     ·rename_i h' hh;split at h
      ·rename_i l hl';split at h
       ·rename_i hcond;cases h;obtain⟨a,cap,e,hcap,_⟩:=g.lu;rw[e]at g;obtain⟨b1,b2,b3⟩:=Ia (P:=P) (w:=w) (κ:=κ) (pv:=pv) (isS:=true) (aaG d lo) (aaG d hi) hcap hh hl';obtain⟨el,hu,hs2⟩:=KF hsz;refine⟨_,?_,asi g hsz b2 b3 hcond⟩;simp only[execOp,Instr.sliceAt,Instr.slice,e,Sem.run_bind,run_underlying hu,Result.andThen_ok,qBW];simp[b1,nU hs2]
       cases h
      cases h
     cases h
    cases h
   ·rename_i l z n ht;rw[ht]at g;split at h
    ·rename_i sz hsz;split at h
     ·rename_i h' hh;cases h;cases hev:ev x with
      |slice a len cap=>
       rw[hev]at g;cases g with
       |psl g1 g2 g3=>
        obtain⟨b1,b2,b3⟩:=Ia (P:=P) (w:=w) (κ:=κ) (pv:=pv) (isS:=true) (alo:=none) (lo:=none) trivial (aaG d hi) g1 hh (show dQ none 0 h'=some 0 from rfl);obtain⟨el,hu,hs2⟩:=KF hsz;refine⟨.slice a h' cap,?_,.psl (by omega) (by omega) g3⟩;simp only[execOp,Instr.sliceAt,Instr.slice,hev,Sem.run_bind,run_underlying hu,Result.andThen_ok,qBW];simp[b1,nU hs2,Addr.add]
      |_=>rw[hev]at g;cases g
     cases h
    cases h
   cases h
 |build t parts=>
  simp only[aB]at h;split at h
  ·rename_i hst;split at h
   ·rename_i z hz;cases hf:kg (D8 P t) z (parts.toList.map λp=>(p.1,ρ p.2))with
    |none=>rw[hf]at h;cases h
    |some cs=>
     rw[hf]at h;cases h;obtain⟨y,h1,h2⟩:=asw (ev:=ev) d hst hz hf;exact⟨y,by simp[execOp,h1],h2⟩
   cases h
  split at h
  ·rename_i sz z hsz hz;cases hf:kg (λi=>some (i*sz,sz)) z (parts.toList.map λp=>(p.1,ρ p.2))with
   |none=>rw[hf]at h;cases h
   |some cs=>
    rw[hf]at h;cases h;obtain⟨y,h1,h2⟩:=axr (ev:=ev) d hsz hz hf;exact⟨y,by simp[execOp,h1],h2⟩
  cases h
 |makeFunc fn first captured=>
  cases fn with
  |func f=>
   simp only[aB]at h;split at h
   ·rename_i hz;cases h;have e:first=#[]:=Array.eq_empty_of_size_eq_zero hz
    subst e;refine⟨.func (.func f) #[] (captured.toList.map ev).toArray,by simp[execOp,Instr.makeFunc];rw[<-Array.toList_map,qBo],.func (by simp) λj hj=>?_⟩;simp only[qAg]at hj;simp only[List.getD,qAH,qAc hj,qAx,qAv];exact d _
   cases h
  |_=>cases h
 |load t x=>
  simp only[aB]at h;have g:=d x;split at h
  ·rename_i cs ht;rw[ht]at g;obtain⟨b,off,y,e,h1,h2,h3⟩:=g.aq3;obtain⟨z,h4,h5⟩:=Hw y h2 h3 h;exact⟨z,by simp[execOp,Instr.loadAt,e,Instr.sureAddr,h4],h5⟩
  cases h
 |convert s t x=>
  simp only[aB]at h;have g:=d x;split at h
  ·rename_i k' n k ht hk;cases h;rw[ht]at g;obtain⟨k2,hu1,hu2⟩:=avq hk;exact⟨.int k (k.wrap n),by simp[execOp,convert,g.sH.1,run_underlying hu1,run_underlying hu2,Conv.intToInt],.int (wf_wrap _ _)⟩
  ·rename_i es tg ht hk;rw[ht]at g;split at h
   ·rename_i hb;cases hy:wU es with
    |none=>rw[hy]at h;cases h
    |some ys=>
     rw[hy]at h;cases h;obtain⟨u,h1,h2⟩:=ase (P:=P) g hb hy;exact⟨u,by simp[execOp,h1],h2⟩
   cases h
  cases h
 |call c=>
  obtain⟨callee,args,argTypes⟩:=c;cases callee with
  |builtin b=>
   cases b<;>try cases h
   case len=>
    simp only[aB]at h;split at h
    ·rename_i x t ha ht;have ea:args=#[x]:=by rw[<-qBo (xs:=args),ha]
     have et:argTypes=#[t]:=by rw[<-qBo (xs:=argTypes),ht]
     subst ea et;have g:=d x;split at h
     ·rename_i s hs;rw[hs]at g;split at h
      ·rename_i hst;cases h;obtain⟨e,hl⟩:=g.zZ;refine⟨.int .i64 s.length,?_,.int ?_⟩
       ·simp[execOp,resolve,invoke,builtin,Builtin.len_,run_underlying (aaT hst),e,size_mk,goInt]
       simp only[qc,IntKind.min,IntKind.max,IntKind.signed,IntKind.bits];simp;omega
      cases h
     ·rename_i es tag hs;rw[hs]at g;split at h
      ·rename_i hst;cases h;obtain⟨a,cap,e,_,hl⟩:=g.lu;obtain⟨n,hn⟩:=qCv.1 hst;obtain⟨el,hu,_⟩:=KF hn;refine⟨.int .i64 es.length,?_,.int ?_⟩
       ·simp[execOp,resolve,invoke,builtin,Builtin.len_,run_underlying hu,e,goInt]
       simp only[qc,IntKind.min,IntKind.max,IntKind.signed,IntKind.bits];simp;omega
      cases h
     ·rename_i l z n hs;rw[hs]at g;split at h
      ·rename_i hst;cases h;obtain⟨m,hn⟩:=qCv.1 hst;obtain⟨el,hu,_⟩:=KF hn;cases hev:ev x with
       |slice a len cap=>
        rw[hev]at g;cases g with
        |psl g1 g2 g3=>
         refine⟨.int .i64 n,?_,.int ?_⟩
         ·simp[execOp,resolve,invoke,builtin,Builtin.len_,run_underlying hu,hev,goInt]
         simp only[qc,IntKind.min,IntKind.max,IntKind.signed,IntKind.bits];simp;omega
       |_=>rw[hev]at g;cases g
      cases h
     cases h
    cases h
   case max=>
    simp only[aB]at h;split at h
    ·rename_i x y ha;have ea:args=#[x,y]:=by rw[<-qBo (xs:=args),ha]
     subst ea;split at h
     ·rename_i k a k' b h1 h2;split at h
      ·rename_i hk;cases h;subst hk;have hx:=d x;have hy:=d y;rw[h1]at hx;rw[h2]at hy;refine⟨.int k (if b>a then b else a),by simp[execOp,resolve,invoke,builtin,Builtin.max_,Builtin.max2,hx.sH.1,hy.sH.1],?_⟩;split
       ·exact .int hy.sH.2
       exact .int hx.sH.2
      cases h
     cases h
    cases h
   case min=>
    simp only[aB]at h;split at h
    ·rename_i x y ha;have ea:args=#[x,y]:=by rw[<-qBo (xs:=args),ha]
     subst ea;split at h
     ·rename_i k a k' b h1 h2;split at h
      ·rename_i hk;cases h;subst hk;have hx:=d x;have hy:=d y;rw[h1]at hx;rw[h2]at hy;refine⟨.int k (if b<a then b else a),by simp[execOp,resolve,invoke,builtin,Builtin.min_,Builtin.min2,hx.sH.1,hy.sH.1],?_⟩;split
       ·exact .int hy.sH.2
       exact .int hx.sH.2
      cases h
     cases h
    cases h
  |_=>cases h
 |_=>cases h
end
end
section
open Go
inductive Wr where
 |slot (n:Nat) (v:AV)
 |obj (l:Nat) (o:AObj)
def ASt.wr1(s:ASt):Wr->ASt| .slot n v=>s.setSlot n v| .obj l o=>s.setObj l o
def ASt.wr s(l:List Wr):=l.foldl ASt.wr1 s
def au(d:Option Tmp)(v:AV):List Wr:=match d with|some n=>[.slot n v]|none=>[]
def isScalar:AV->Bool| .unk=>false| .agg _=>false| .tup _=>false|_=>true
def bX sz(e:List AV):=e.length==sz&&e.all isScalar
def bS:AObj->Bool| .res=>true|_=>false
def chunks(sz:Nat):Nat->List AV->List (List AV)|0,_=>[]|n+1,c=>c.take sz::chunks sz n (c.drop sz)
def rE(es:List (List UInt8×AV))k:=(es.find? λp=>p.1==k).map (·.2)
def G5(es:List (List UInt8×AV))(k:List UInt8)(v:AV):=
 match es with|[]=>[(k,v)]|p::r=>if p.1==k then(k,v)::r else p::G5 r k v
def Cj(f:Option AV)(ok:Bool)(z:AV):AV:=
 match f,ok with|some v,true=>.tup [v,.bool true]|some v,false=>v|none,true=>.tup [z,.bool false]|none,false=>z
def shr:AV->AV| .slice e _=>.slice e .shared|v=>v
def sN:AV->AV| .agg c=>.agg (c.map shr)|v=>shr v
def aq9:Value->AV| .agg c=>.agg (c.toList.map ofConst)|v=>ofConst v
def KQ(P:Program)t:=(P.info? t).bind λi=>i.zero.map aq9
def lV(P:Program)(t:TypeId):Option (TypeId×Nat×Nat):=
 match P.underlying t with|some (.slice e)=>(P.info? e).bind λi=>if(i.zero.map λz=>z.cells.size)=some i.size then some (e,i.size,i.bytes)else none|_=>none
def sG(P:Program)(t:TypeId):Option TypeId:=
 match P.underlying t with
 |some (.map k e)=>match P.underlying k with|some .string=>some e|_=>none
 |_=>none
def aJ(P:Program)(k:Nat)(o:Oper)(ρ:Operand->AV)(σ:Nat->AObj):Option (List Nat×List Wr):=
 match aB P o.op ρ with
 |some v=>some ([],au o.dst v)|none=>match o.op with
  | .load t x=>match ρ x with
   | .ptr l f=>match σ l with
    | .box cs=>(jB P t (cs.drop f)).map λv=>([l],au o.dst v)| .arr z d=>if f=f/z*z/\f/z<d.length then(jB P t (d.getD (f/z) [])).map λv=>([l],au o.dst v)else none|_=>none
   |_=>none
  | .store t x y=>match ρ x,dS (ρ y)with
   | .ptr l f,some h=>match σ l with
    | .box cs=>if sizeT P t=some h.length/\f+h.length<=cs.length/\h.all isScalar then some ([l],.obj l (.box (cs.take f++h++cs.drop (f+h.length)))::au o.dst (.tup []))else none| .arr z d=>if sizeT P t=some h.length/\h.length=z/\f=f/z*z/\f/z<d.length/\h.all isScalar then some ([l],.obj l (.arr z (d.set (f/z) h))::au o.dst (.tup []))
     else if sizeT P t=some h.length/\0<z/\f/z<d.length/\f%z+h.length<=z/\h.all isScalar then some ([l],.obj l (.arr z (d.set (f/z) ((d.getD (f/z) []).take (f%z)++h++(d.getD (f/z) []).drop (f%z+h.length))))::au o.dst (.tup []))else none
    |_=>none
   |_,_=>none
  | .alloc t=>if bS (σ k)then(kr P t).map λz=>([k],.obj k (.box z)::au o.dst (.ptr k 0))else none| .box _ x=>if bS (σ k)then(dS (ρ x)).map λcs=>([k],.obj k (.box cs)::au o.dst (.ptr k 0))else none| .makeMap _ none=>if bS (σ k)then some ([k],.obj k (.mp [])::au o.dst (.mapr k))else none| .buildSlice t j r=>match lV P t with
   |some (e,a,_)=>match kr P e with
    |some z=>if bS (σ k)/\j*a<=16777216/\j<=16777216/\z.length=a then(kg (λi=>some (i*a,a)) ((List.replicate j z).flatten) (r.toList.map λp=>(p.1,ρ p.2))).map λcs=>([k],.obj k (.tip (j*a))::au o.dst (.slice (chunks a j (cs.map shr)) (.tip k a)))else none|none=>none
   |none=>none
  | .call {callee:=.builtin .append,args,argTypes}=>match args.toList,argTypes.toList with
   |[x,y],[t,u]=>match lV P t,isSliceT P u,ρ x,ρ y with
    |some (_,a,b),true,.slice d .nils,.slice g _=>
     if bS (σ k)/\d=[]/\g.length*b<=140737488355328/\g.length<=140737488355328/\(g.all (bX a)=true)then
      some ([k],.obj k (.tip (g.length*a))::au o.dst (.slice g (.tip k a)))else none
    |some (_,a,b),true,(.slice d (.tip l z)),.slice g _=>match σ l with
     | .tip n=>if bS (σ k)/\n=d.length*a/\z=a/\(d.length+g.length)*b<=140737488355328/\d.length+g.length<=140737488355328/\(d.all (bX a)=true)/\(g.all (bX a)=true)then
       some ([l,k],.obj l .dead:: .obj k (.tip ((d++g).length*a))::au o.dst (.slice (d++g) (.tip k a)))else none
     |_=>none
    |some (_,a,b),true,.psl l z n,.slice g _=>match σ l with
     | .arr w d=>if bS (σ k)/\z=a/\w=a/\n<=d.length/\(n+g.length)*b<=140737488355328/\n+g.length<=140737488355328/\(d.all (bX a)=true)/\(g.all (bX a)=true)then
       some ([l,k],.obj l .dead:: .obj k (.arr a (d.take n++g))::au o.dst (.psl k a (d.take n++g).length))else none
     |_=>none
    |_,_,_,_=>none
   |_,_=>none
  | .makeSlice t x y=>match lV P t,ρ x,ρ y with
   |some (e,a,b),.int _ l,.int _ c=>match kr P e with|some z=>if bS (σ k)/\0<=l/\l<=c/\b*c<=281474976710656/\c<=140737488355328/\z.length=a then some ([k],.obj k (.arr a (List.replicate l.toNat z))::au o.dst (.psl k a l.toNat))else none|none=>none
   |_,_,_=>none
  | .lookup t m q A=>match sG P t,ρ m,ρ q with
   |some e,.mapr l,.str s=>match σ l,KQ P e with
    | .mp d,some z=>some ([l],au o.dst (Cj (rE d s) A z))|_,_=>none
   |_,_,_=>none
  | .mapUpdate t m q x=>match sG P t,ρ m,ρ q with
   |some _,.mapr l,.str s=>match σ l with| .mp d=>if d.length<140737488355328 then some ([l],.obj l (.mp (G5 d s (sN (ρ x))))::au o.dst (.tup []))else none|_=>none
   |_,_,_=>none
  |_=>none
where
 isSliceT (P:Program) (t:TypeId):Bool:=match P.underlying t with|some (.slice _)=>true|_=>false
end
end Abs
end Go.Proofs.YtneeginmfjageaaGreat

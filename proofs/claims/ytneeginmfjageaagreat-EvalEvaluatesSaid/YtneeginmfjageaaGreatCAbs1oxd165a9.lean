/- Abstract values. Conditions: none. -/
import Derived.Test.YtneeginmfjageaaGreatAl
import Derived.WalkKit
import Derived.MapKept
import Derived.Laws.BytesArg
import Derived.Lib.Strings
set_option linter.all false
namespace Go.Proofs.YtneeginmfjageaaGreat
namespace Abs
inductive Tag where
 |shared|nils|tip (l z:Nat)
inductive AV where
 |unk
 |int (k:IntKind) (n:Int)
 |bool (b:Bool)
 |str (s:By)
 |nilp
 |ptr (l off:Nat)
 |eptr (cs:List AV)
 |slice (es:List (List AV)) (tag:Tag)
 |agg (cs:List AV)
 |tup (vs:List AV)
 |func (f:Nat) (caps:List AV)
 |mapr (l:Nat)
 |nilFunc
 |psl (l z len:Nat)
 |flist (ns:List (List AV))
 |ifc (t:TypeId) (v:Value)
abbrev Cd:=Option AV
abbrev An:=List AV
instance:Inhabited AV:=⟨.unk⟩
inductive AObj where
 |box (cs:An)
 |tip (n:Nat)
 |mp (es:List (By×AV))
 |dead
 |res
 |arr (z:Nat) (es:List An)
abbrev A6:=List AObj
abbrev aS:=List Bx
abbrev bU:=Nat->Nat->Prop
def at?(κ:aS)(l:Nat):Bx:=(κ[l]?).getD none
def sj(k:IntKind)(n:Int):Prop:=k.min<=n/\n<=k.max
def Tf(w:World)(κ:aS)(a:Option Addr)(cap sz:Nat):Tag->Prop| .shared=>True| .nils=>a=none/\cap=0| .tip l z=>z=sz/\((a=none/\cap=0)∨∃b c e,at? κ l=some b/\a=some ⟨b,0,none⟩/\w.heap[b]? =some (Obj.cells c e (0,0))/\cap*sz<=c.size)
inductive Rel(w:World)(κ:aS)(pv:bU):AV→Value→Prop where
 |unk (v:Value):Rel w κ pv .unk v
 |int {k:IntKind} {n:Int}:sj k n→Rel w κ pv (.int k n) (.int k n)
 |bool (b:Bool):Rel w κ pv (.bool b) (.bool b)
 |str {s:By}:s.length≤9223372036854775807→Rel w κ pv (.str s) (.string ⟨s.toArray⟩)
 |nilp:Rel w κ pv .nilp (.pointer none)
 |ifc (t:TypeId) (v:Value):Rel w κ pv (.ifc t v) (.iface t v)
 |ptr {l off b:Nat}:at? κ l=some b→Rel w κ pv (.ptr l off) (.pointer (some ⟨b,off,none⟩))
 |eptr {cs:An} {b off:Nat} (u:Nat→Value):(∀j,j<cs.length→¬pv b (off+j))→(∀j,j<cs.length→w.cell? ⟨b,off+j,none⟩=some (u j))→
   (∀j,j<cs.length→Rel w κ pv (cs.getD j .unk) (u j))→Rel w κ pv (.eptr cs) (.pointer (some ⟨b,off,none⟩))
 |slice {es:List An} {tag:Tag} {a:Option Addr} {cap:Nat} (b off sz:Nat) (u:Nat→Nat→Value):
   (∀i,i<es.length→(es.getD i []).length=sz)→(es≠[]→a=some ⟨b,off,none⟩)→es.length≤cap→es.length≤9223372036854775807→
   (∀i j,i<es.length→j<sz→¬pv b (off+(i*sz+j)))→(∀i j,i<es.length→j<sz→w.cell? ⟨b,off+(i*sz+j),none⟩=some (u i j))→
   (∀i j,i<es.length→j<sz→Rel w κ pv ((es.getD i []).getD j .unk) (u i j))→Tf w κ a cap sz tag→Rel w κ pv (.slice es tag) (.slice a es.length cap)
 |agg {cs:An} {vs:List Value}:vs.length=cs.length→(∀j,j<cs.length→Rel w κ pv (cs.getD j .unk) (vs.getD j undef))→Rel w κ pv (.agg cs) (.agg vs.toArray)
 |tup {cs:An} {vs:List Value}:vs.length=cs.length→(∀j,j<cs.length→Rel w κ pv (cs.getD j .unk) (vs.getD j undef))→Rel w κ pv (.tup cs) (.tuple vs.toArray)
 |func {f:Nat} {cs:An} {vs:List Value}:vs.length=cs.length→(∀j,j<cs.length→Rel w κ pv (cs.getD j .unk) (vs.getD j undef))→Rel w κ pv (.func f cs) (.func (.func f) #[] vs.toArray)
 |mapr {l b:Nat}:at? κ l=some b→Rel w κ pv (.mapr l) (.map (some b))
 |nilFunc:Rel w κ pv .nilFunc .nilFunc
 |psl {l z len cap:Nat} {a:Option Addr}:len≤cap→len≤140737488355328→Tf w κ a cap z (.tip l z)→Rel w κ pv (.psl l z len) (.slice a len cap)
 |flnil:Rel w κ pv (.flist []) (.pointer none)
 |flcons {cs:An} {r:List An} {b off:Nat} (u:Nat→Value) (x:Value):(∀j,j≤cs.length→¬pv b (off+j))→(∀j,j<cs.length→w.cell? ⟨b,off+j,none⟩=some (u j))→w.cell? ⟨b,off+cs.length,none⟩=some x→
   (∀j,j<cs.length→Rel w κ pv (cs.getD j .unk) (u j))→Rel w κ pv (.flist r) x→Rel w κ pv (.flist (cs::r)) (.pointer (some ⟨b,off,none⟩))
structure Evo(pv:bU)(w w':World):Prop where
 size:w.heap.size≤w'.heap.size
 cell:∀b off u,¬pv b off→w.cell? ⟨b,off,none⟩=some u→w'.cell? ⟨b,off,none⟩=some u
 shape:∀(b:Nat) c e z,w.heap[b]? =some (Obj.cells c e z)→∃c',w'.heap[b]? =some (Obj.cells c' e z)∧c'.size=c.size
def Evo.refl(pv:bU)(w:World):Evo pv w w:=⟨qAd _,λ_ _ _ _ h=>h,λ_ c _ _ h=>⟨c,h,rfl⟩⟩
def Evo.trans{pv p:bU}{a b c:World}(h:Evo pv a b)(k:Evo p b c)(m:∀x o,p x o->x<a.heap.size->pv x o):Evo pv a c:=by
 refine⟨qAs h.size k.size,λx o u n f=>k.cell x o u (λi=>?_) (h.cell x o u n f),λx d e z g=>?_⟩
 ·by_cases g:x<a.heap.size
  ·grind
  have:a.heap[x]? =none:=by simp;omega
  simp[World.cell?,this]at f
 let⟨j,l,s⟩:=h.shape x d e z g;let⟨q,r,t⟩:=k.shape x j e z l
 grind
def dL(κ κ':aS):Prop:=∀l b,at? κ l=some b->at? κ' l=some b
def dL.refl(κ:aS):dL κ κ:=λ_ _ h=>h
def dL.trans{a b c:aS}(h:dL a b)(k:dL b c):dL a c:=λl x d=>k l x (h l x d)
def Tf.mono{w w':World}{κ κ':aS}{pv:bU}{a:Option Addr}{cap sz:Nat}{t:Tag}(h:Tf w κ a cap sz t)(f:Evo pv w w')(k:dL κ κ'):Tf w' κ' a cap sz t:=by
 cases t with|shared=>trivial|nils=>exact h|tip l z=>
  obtain⟨d,h|⟨b,c,e,g,i,j,m⟩⟩:=h;·exact⟨d,.inl h⟩
  let⟨n,o,p⟩:=f.shape b c e _ j;exact⟨d,.inr ⟨b,n,e,k l b g,i,o,(by rw[p];exact m)⟩⟩
def lt_of_cell{w:World}{b o:Nat}{u:Value}(h:w.cell? ⟨b,o,none⟩=some u):b<w.heap.size:=by
 apply qAn;intro n;have:w.heap[b]? =none:=by simp;omega
 simp[World.cell?,this]at h
def Rel.mono{w w':World}{κ κ':aS}{pv k:bU}(f:Evo pv w w')(n:dL κ κ')(q:∀b o,k b o->b<w.heap.size->pv b o):
  ∀{x:AV} {v:Value},Rel w κ pv x v->Rel w' κ' k x v:=by
 intro x v h
 induction h with|unk v=>exact .unk v|int h=>exact .int h|bool b=>exact .bool b|str h=>exact .str h|nilp=>exact .nilp|ifc t v=>exact .ifc t v|ptr h=>exact .ptr (n _ _ h)|eptr u a e _ d=>exact .eptr u (λj c p=>a j c (q _ _ p (lt_of_cell (e j c)))) (λj c=>f.cell _ _ _ (a j c) (e j c)) d|slice b l D u a e g s B C _ E d=>exact .slice b l D u a e g s (λi j m c p=>B i j m c (q _ _ p (lt_of_cell (C i j m c)))) (λi j m c=>f.cell _ _ _ (B i j m c) (C i j m c)) d (E.mono f n)|agg a _ d=>exact .agg a d|tup a _ d=>exact .tup a d|func a _ d=>exact .func a d|mapr h=>exact .mapr (n _ _ h)|nilFunc=>exact .nilFunc|psl a e g=>exact .psl a e (g.mono f n)|flnil=>exact .flnil|@flcons F r b l u x a e g _ _ y z=>have A:b<w.heap.size:=lt_of_cell g;exact .flcons u x (λj c p=>a j c (q _ _ p A)) (λj c=>f.cell _ _ _ (a j (Nat.le_of_lt c)) (e j c)) (f.cell _ _ _ (a _ (qAd _)) g) y z
def Rel.share{w:World}{κ:aS}{pv:bU}{es:List An}{t:Tag}{v:Value}(h:Rel w κ pv (.slice es t) v):Rel w κ pv (.slice es .shared) v:=by cases h with|slice b o s u c d e a f g i _=>exact .slice b o s u c d e a f g i trivial
structure ASt where
 tmps:An
 heap:A6
def obj?(H:A6)(l:Nat):AObj:=(H[l]?).getD .dead
def Aw:AObj->Nat->Prop| .box _,_=>True| .mp _,_=>True| .tip n,o=>n<=o| .arr _ _,_=>True|_,_=>False
def live:AObj->Prop| .box _=>True| .mp _=>True| .tip _=>True| .arr _ _=>True|_=>False
structure Ctx where
 ak:bU
 old:Nat→Prop
 w0:World
 k0:aS
 pvE:bU
 ds:List Deferred:=[]
def aH(ak:bU)(κ:aS)(H:A6):bU:=λb o=>ak b o∨∃l,at? κ l=some b/\Aw (obj? H l) o
def aw3(m:Array MapEntry)(c:Nat)(s:List By):Prop:=s.length<=140737488355328/\MapKept.Stamped m c/\∀k∈s,k.length<=9223372036854775807
def qX(w:World)(κ:aS)(pv:bU)(b:Nat):AObj->Prop
 | .box a=>∃c e,w.heap[b]? =some (Obj.cells c e (0,0))/\c.size=a.length/\∀j,j<a.length->Rel w κ pv (a.getD j .unk) (c.getD j undef)
 | .tip n=>∃c e,w.heap[b]? =some (Obj.cells c e (0,0))/\n<=c.size
 | .mp s=>∃m l,w.heap[b]? =some (Obj.map m l)/\m.size=s.length/\aw3 m l (s.map (·.1))/\
   ∀j,j<s.length->(m.getD j default).key=.string ⟨((s.getD j ([],.unk)).1).toArray⟩/\Rel w κ pv (s.getD j ([],.unk)).2 (m.getD j default).val
 | .arr z s=>∃c e,w.heap[b]? =some (Obj.cells c e (0,0))/\s.length*z<=c.size/\(∀i,i<s.length->(s.getD i []).length=z)/\
   ∀i j,i<s.length->j<z->Rel w κ pv ((s.getD i []).getD j .unk) (c.getD (i*z+j) undef)
 |_=>True
structure Sim(C:Ctx)(κ:aS)(s:ASt)(a:Act)(w:World):Prop where
 defers:a.defers=C.ds
 len:a.tmps.size=s.tmps.length
 slot:∀n,n<s.tmps.length→Rel w κ (aH C.ak κ s.heap) (s.tmps.getD n .unk) (a.tmps.getD n undef)
 klen:κ.length=s.heap.length
 kext:dL C.k0 κ
 resv:∀l,obj? s.heap l=.res→at? κ l=none
 obj:∀l b,at? κ l=some b→live (obj? s.heap l)→qX w κ (aH C.ak κ s.heap) b (obj? s.heap l)
 apart:∀l l' b,at? κ l=some b→at? κ l'=some b→live (obj? s.heap l)→live (obj? s.heap l')→l=l'
 own:∀l b,at? κ l=some b→live (obj? s.heap l)→¬C.old b
 bound:∀l b,at? κ l=some b→b<w.heap.size
 pvold:∀b o,C.ak b o→C.old b
 oldlt:∀b,C.old b→b<C.w0.heap.size
 old:∀b:Nat,C.old b→w.heap[b]? =C.w0.heap[b]?
 os:w.os=C.w0.os
 tape:w.tape=C.w0.tape
 output:w.output=C.w0.output
 size:C.w0.heap.size≤w.heap.size
 pvsub:∀b o,aH C.ak κ s.heap b o→b<C.w0.heap.size→C.pvE b o
 ny:Evo C.pvE C.w0 w
def ASt.setSlot(s:ASt)(d:Nat)(v:AV):ASt:={s with tmps:=s.tmps.set d v}
def ASt.setObj(s:ASt)(l:Nat)(o:AObj):ASt:={s with heap:=s.heap.set l o}
def lW{α:Type}{l:List α}{n:Nat}{v d:α}(h:n<l.length):(l.set n v).getD n d=v:=by grind
def qy{α:Type}{l:List α}{n m:Nat}{v d:α}(h:n≠m):(l.set n v).getD m d=l.getD m d:=by grind
def sW{c:Array Value}{n:Nat}{v d:Value}(h:n<c.size):(c.setIfInBounds n v).getD n d=v:=by simp_all
def nQ{c:Array Value}{n m:Nat}{v d:Value}(h:n≠m):(c.setIfInBounds n v).getD m d=c.getD m d:=by simp_all
def Sim.put{C:Ctx}{κ:aS}{s:ASt}{a:Act}{w:World}(h:Sim C κ s a w){d:Nat}{v:AV}{u:Value}(e:Rel w κ (aH C.ak κ s.heap) v u):
  Sim C κ (s.setSlot d v) (a.put (some d) u) w:=by
 refine{h with len:=?_,slot:=?_};·simp[ASt.setSlot,Act.put,h.len]
 intro n b;simp only[ASt.setSlot,qAT]at b|-;simp only[Act.put];by_cases c:d=n
 ·subst c;rw[lW b,sW (by rw[h.len];exact b)];exact e
 rw[qy c,nQ c];exact h.slot n b
def at?_set_same{κ:aS}{k b:Nat}(h:k<κ.length):at? (κ.set k (some b)) k=some b:=by simp[at?,h]
def at?_set_other{κ:aS}{k l b:Nat}(h:k≠l):at? (κ.set k (some b)) l=at? κ l:=by simp[at?,qBV h]
def obj?_set_same{H:A6}{k:Nat}{o:AObj}(h:k<H.length):obj? (H.set k o) k=o:=by simp[obj?,h]
def obj?_set_other{H:A6}{k l:Nat}{o:AObj}(h:k≠l):obj? (H.set k o) l=obj? H l:=by simp[obj?,qBV h]
def lt_of_at?{κ:aS}{l b:Nat}(h:at? κ l=some b):l<κ.length:=by
 unfold at? at h
 grind
def qX.mono{w w':World}{κ κ':aS}{pv p:bU}{b:Nat}{o:AObj}(h:qX w κ pv b o)(k:w'.heap[b]? =w.heap[b]?)(m:Evo pv w w')(q:dL κ κ')
  (r:∀b o,p b o->b<w.heap.size->pv b o):qX w' κ' p b o:=by
 cases o with
 |box x=>
  let⟨c,e,a,d,g⟩:=h;exact⟨c,e,by rw[k];exact a,d,λj f=>(g j f).mono m q r⟩
 |tip n=>
  let⟨c,e,a,d⟩:=h;exact⟨c,e,by rw[k];exact a,d⟩
 |mp s=>
  let⟨t,u,a,d,g,l⟩:=h;exact⟨t,u,by rw[k];exact a,d,g,λj f=>⟨(l j f).1,(l j f).2.mono m q r⟩⟩
 |dead=>trivial
 |res=>trivial
 |arr z s=>
  let⟨c,e,a,d,g,l⟩:=h;exact⟨c,e,by rw[k];exact a,d,g,λi j v f=>(l i j v f).mono m q r⟩
def Sim.step{C:Ctx}{κ κ':aS}{s:ASt}{a:Act}{w w':World}{H':A6}(h:Sim C κ s a w)
  (f:Evo (aH C.ak κ s.heap) w w') (k:dL κ κ') (A:κ'.length=H'.length)
  (p:∀b o,aH C.ak κ' H' b o->b<w.heap.size->aH C.ak κ s.heap b o)
  (j:∀l b,at? κ' l=some b->live (obj? H' l)->(at? κ l=some b/\obj? H' l=obj? s.heap l/\w'.heap[b]? =w.heap[b]?)∨
   (b<w'.heap.size/\¬C.old b/\qX w' κ' (aH C.ak κ' H') b (obj? H' l)))
  (i:∀l m b,at? κ' l=some b->at? κ' m=some b->live (obj? H' l)->live (obj? H' m)->l=m)
  (q:∀l b,at? κ' l=some b->b<w'.heap.size)
  (r:∀l,obj? H' l=.res->at? κ' l=none)
  (d:∀b:Nat,C.old b->w'.heap[b]? =w.heap[b]?) (u:w'.os=w.os) (B:w'.tape=w.tape) (D:w'.output=w.output):
  Sim C κ' {s with heap:=H'} a w':=by
 have x:∀b o,aH C.ak κ' H' b o->b<C.w0.heap.size->C.pvE b o:=λb o g c=>h.pvsub b o (p b o g (qAB c h.size)) c;refine⟨h.defers,h.len,λn E=>(h.slot n E).mono f k p,A,h.kext.trans k,r,?_,i,?_,q,h.pvold,h.oldlt,λb g=>(d b g).trans (h.old b g),u.trans h.os,B.trans h.tape,D.trans h.output,qAs h.size f.size,x,h.ny.trans f h.pvsub⟩
 ·intro l b t v;rcases j l b t v with⟨y,z,e⟩|⟨_,_,e⟩
  ·rw[show obj? ({s with heap:=H'}:ASt).heap l=obj? s.heap l from z]at v|-;exact(h.obj l b y v).mono e f k p
  exact e
 intro l b t v;rcases j l b t v with⟨y,z,_⟩|⟨_,e,_⟩
 ·exact h.own l b y (by rw[<-z];exact v)
 exact e
def Evo.of_heap{pv:bU}{w w':World}(h:w'.heap=w.heap):Evo pv w w':=
 ⟨by rw[h];exact qAd _,λ_ _ _ _ a=>by simpa[World.cell?,h]using a,λb c e z d=>⟨c,by rw[h];exact d,rfl⟩⟩
def Sim.sameHeap{C:Ctx}{κ:aS}{s:ASt}{a:Act}{w w':World}(h:Sim C κ s a w)(c:w'.heap=w.heap)(o:w'.os=w.os)(t:w'.tape=w.tape)(e:w'.output=w.output):
  Sim C κ s a w':=
 h.step (H':=s.heap) (Evo.of_heap c) (dL.refl _) h.klen (λ_ _ d _=>d) (λl b f _=>.inl ⟨f,rfl,by rw[c]⟩) h.apart (λl b d=>by rw[c];exact h.bound l b d) h.resv (λb _=>by rw[c]) o t e
def cell?_push{w:World}{o:Obj}{b off:Nat}{u:Value}(h:w.cell? ⟨b,off,none⟩=some u):World.cell? {w with heap:=w.heap.push o} ⟨b,off,none⟩=some u:=by
 simp only[World.cell?]at h|-
 grind
def acQ{w:World}{o:Obj}{b:Nat}(h:b<w.heap.size):(w.heap.push o)[b]? =w.heap[b]?:=by grind
def Evo.push{pv:bU}{w:World}(o:Obj):Evo pv w {w with heap:=w.heap.push o}:=by
 refine⟨by simp,λb f u _ h=>cell?_push h,λb c e z a=>⟨c,?_,rfl⟩⟩
 grind
def Sim.new{C:Ctx}{κ:aS}{s:ASt}{a:Act}{w:World}(h:Sim C κ s a w){k:Nat}(A:at? κ k=none)(t:k<s.heap.length)(o:Obj)(j:AObj)(n:j≠ .res)
  (r:qX {w with heap:=w.heap.push o} (κ.set k (some w.heap.size)) (aH C.ak (κ.set k (some w.heap.size)) (s.heap.set k j)) w.heap.size j):
  Sim C (κ.set k (some w.heap.size)) (s.setObj k j) a {w with heap:=w.heap.push o}:=by
 have f:k<κ.length:=by rw[h.klen];exact t
 have x:dL κ (κ.set k (some w.heap.size)):=λl b m=>by
  rw[at?_set_other];exact m
  grind
 refine h.step (H':=s.heap.set k j) (Evo.push o) x (by simp[h.klen]) ?_ ?_ ?_ ?_ ?_ ?_ rfl rfl rfl
 ·rintro b y (m|⟨l,c,g⟩) p
  ·exact .inl m
  by_cases d:k=l
  ·subst d;rw[at?_set_same f]at c;cases c;omega
  rw[at?_set_other d]at c;rw[obj?_set_other d]at g;exact .inr ⟨l,c,g⟩
 ·intro l b c g;by_cases d:k=l
  ·subst d;rw[at?_set_same f]at c;cases c;refine .inr ⟨by simp,λz=>?_,by rw[obj?_set_same t];exact r⟩;have:=h.oldlt _ z;have:=h.size;omega
  rw[at?_set_other d]at c;exact .inl ⟨c,by rw[obj?_set_other d],acQ (h.bound l b c)⟩
 ·intro l q b c g u v;by_cases d:k=l<;>by_cases i:k=q
  ·grind
  ·subst d;rw[at?_set_same f]at c;cases c;rw[at?_set_other i]at g;have:=h.bound _ _ g;omega
  ·subst i;rw[at?_set_same f]at g;cases g;rw[at?_set_other d]at c;have:=h.bound _ _ c;omega
  rw[at?_set_other d]at c;rw[at?_set_other i]at g;rw[obj?_set_other d]at u;rw[obj?_set_other i]at v;exact h.apart l q b c g u v
 ·intro l b c;by_cases d:k=l
  ·subst d;rw[at?_set_same f]at c;cases c;simp
  rw[at?_set_other d]at c;have:=h.bound l b c;simp;omega
 ·intro l d;by_cases e:k=l
  ·subst e;rw[obj?_set_same t]at d;exact(n d).elim
  rw[obj?_set_other e]at d;rw[at?_set_other e];exact h.resv l d
 intro b m;exact acQ (qAB (h.oldlt b m) h.size)
def Sim.box{C:Ctx}{κ:aS}{s:ASt}{a:Act}{w:World}(h:Sim C κ s a w){l b:Nat}{cs:An}(f:at? κ l=some b)(o:obj? s.heap l=.box cs):
  ∃c e,w.heap[b]? =some (Obj.cells c e (0,0))/\c.size=cs.length/\(∀j,j<cs.length->w.cell? ⟨b,j,none⟩=some (c.getD j undef))/\
   ∀j,j<cs.length->Rel w κ (aH C.ak κ s.heap) (cs.getD j .unk) (c.getD j undef):=by have r:=h.obj l b f (by rw[o];trivial);rw[o]at r;let⟨c,e,d,g,i⟩:=r;refine⟨c,e,d,g,λj k=>?_,i⟩;simp[World.cell?,d,show j<c.size by omega]
def sH{w:World}{b j k:Nat}{u:Value}(h:k≠b):(w.setCell ⟨b,j,none⟩ u).heap[k]? =w.heap[k]?:=by simp[World.setCell,qBI,qBo h]
def BZ{w:World}{b j:Nat}{u:Value}{c:Array Value}{e:TypeId}{z:Nat×Nat}(h:w.heap[b]? =some (Obj.cells c e z)):
  (w.setCell ⟨b,j,none⟩ u).heap[b]? =some (Obj.cells (c.setIfInBounds j u) e z):=by simp[World.setCell,qBI,h]
def Evo.setCell{pv:bU}{w:World}{b j:Nat}{u:Value}(p:pv b j):Evo pv w (w.setCell ⟨b,j,none⟩ u):=by
 refine⟨by simp,λx o y n d=>?_,λx c e z a=>?_⟩
 ·rw[World.cell?_setCell_other];exact d
  grind
 by_cases h:x=b
 ·subst h;exact⟨_,BZ a,by simp⟩
 exact⟨c,by rw[sH h];exact a,rfl⟩
def Sim.store{C:Ctx}{κ:aS}{s:ASt}{a:Act}{w:World}(h:Sim C κ s a w){l b j:Nat}{cs:An}{v:AV}{u:Value}(n:at? κ l=some b)(p:obj? s.heap l=.box cs)
  (N:j<cs.length) (I:Rel w κ (aH C.ak κ s.heap) v u):Sim C κ (s.setObj l (.box (cs.set j v))) a (w.setCell ⟨b,j,none⟩ u):=by
 let⟨c,e,J,K,_,L⟩:=h.box n p;have t:l<s.heap.length:=by rw[<-h.klen];exact lt_of_at? n
 have y:aH C.ak κ s.heap b j:=.inr ⟨l,n,by rw[p];trivial⟩;have g:Evo (aH C.ak κ s.heap) w (w.setCell ⟨b,j,none⟩ u):=Evo.setCell y;have z:∀x o,aH C.ak κ (s.heap.set l (.box (cs.set j v))) x o->x<w.heap.size->aH C.ak κ s.heap x o:=by
  rintro x o (M|⟨k,d,f⟩) _
  ·exact .inl M
  by_cases e:l=k
  ·subst e;exact .inr ⟨l,d,by rw[p];trivial⟩
  rw[obj?_set_other e]at f;exact .inr ⟨k,d,f⟩
 refine h.step (H':=s.heap.set l (.box (cs.set j v))) g (dL.refl _) (by simp[h.klen]) z ?_ ?_ ?_ ?_ ?_ rfl rfl rfl
 ·intro k q d f;by_cases e:l=k
  ·subst e;rw[n]at d;cases d;refine .inr ⟨by simpa using h.bound l b n,h.own l b n (by rw[p];trivial),?_⟩;rw[obj?_set_same t];refine⟨_,_,BZ J,by simp[K],λi A=>?_⟩;simp only[qAT]at A;by_cases B:j=i
   ·subst B;rw[lW A,sW Cl];exact I.mono g (dL.refl _) z
   rw[qy B,nQ B];exact(L i A).mono g (dL.refl _) z
  rw[obj?_set_other e]at f|-;refine .inl ⟨d,rfl,sH λD=>?_⟩;subst D;exact e (h.apart l k q n d (by rw[p];trivial) f)
 ·intro G H q d f E F;refine h.apart G H q d f ?_ ?_
  ·by_cases e:l=G
   ·subst e;rw[p];trivial
   rwa[obj?_set_other e]at E
  by_cases e:l=H
  ·subst e;rw[p];trivial
  rwa[obj?_set_other e]at F
 ·intro k q r;simpa using h.bound k q r
 ·intro k m;by_cases e:l=k
  ·subst e;rw[obj?_set_same t]at m;cases m
  rw[obj?_set_other e]at m;exact h.resv k m
 intro q r;refine sH λD=>?_;subst D;exact h.own l q n (by rw[p];trivial) r
def KH:Value->AV| .int k n=>if k.min<=n/\n<=k.max then .int k n else .unk| .bool b=>.bool b| .string s=>if s.data.toList.length<=9223372036854775807 then .str s.data.toList else .unk| .pointer none=>.nilp| .slice none 0 0=>.slice [] .nils| .nilFunc=>.nilFunc|_=>.unk
def arn{w:World}{κ:aS}{pv:bU}(v:Value):Rel w κ pv (KH v) v:=by
 unfold KH;split
 ·split
  ·rename_i h;exact .int h
  exact .unk _
 ·exact .bool _
 ·split
  ·rename_i s h;have:s=⟨s.data.toList.toArray⟩:=by simp
   exact .str h
  exact .unk _
 ·exact .nilp
 ·exact .slice (es:=[]) (tag:=.nils) 0 0 0 (λ_ _=>undef) (λi h=>by cases h) (λh=>(h rfl).elim) (qAZ _) cn (λi j h=>by cases h) (λi j h=>by cases h) (λi j h=>by cases h) ⟨rfl,rfl⟩
 ·exact .nilFunc
 exact .unk _
def ofConst:Value->AV| .agg c=>.agg (c.toList.map KH)|v=>KH v
def xB{w:World}{κ:aS}{pv:bU}(v:Value):Rel w κ pv (ofConst v) v:=by
 unfold ofConst;split
 ·rename_i c;have h:Rel w κ pv (.agg (c.toList.map KH)) (.agg c.toList.toArray):=.agg cn λj a=>by
   have e:(c.toList.map KH).getD j .unk=KH (c.toList.getD j undef):=by
    grind
   rw[e];exact arn _
  simp_all
 exact arn _
def bL(tmps:An):Operand->AV| .tmp t=>tmps.getD t .unk| .const v=>ofConst v| .func f=>.func f []| .global _=>.unk
def Sim.ev{C:Ctx}{κ:aS}{s:ASt}{a:Act}{w:World}(h:Sim C κ s a w)(x:Operand):Rel w κ (aH C.ak κ s.heap) (bL s.tmps x) (a.eval x):=by
 cases x with
 |tmp t=>
  by_cases b:t<s.tmps.length
  ·exact h.slot t b
  have:s.tmps.getD t .unk=.unk:=by rw[List.getD,qAC (qBd b)];rfl
  simp only[bL,this];exact .unk _
 |const v=>exact xB v
 |func f=>
  have h:=Rel.func (w:=w) (κ:=κ) (pv:=aH C.ak κ s.heap) (f:=f) (cs:=[]) (vs:=[]) rfl (λj c=>by cases c);simpa[bL,Act.eval]using h
 |global g=>exact .unk _
def sizeT(P:Program)(t:TypeId):Bx:=(P.info? t).map (·.size)
def QN(P:Program)(t:TypeId):Ax:=
 match P.underlying t with|some (.struct _)=>some true|some (.array _ _)=>some true|some _=>some false|none=>none
def Bo(P:Program)(s:TypeId)(f:Nat):Option (Nat×TypeId):=
 match P.underlying s with
 |some (.struct a)=>(a[f]?).bind λx=>match sizeT P x.type with|some (_+1)=>some (x.offset,x.type)|_=>none
 |_=>none
def kC(P:Program)(t:TypeId)(cs:An):Cd:=
 match QN P t with
 |some true=>match sizeT P t with
  |some n=>if cs.length=n then some (.agg cs)else if n<=cs.length then some (.agg (cs.take n))else none
  |none=>none
 |some false=>match cs with|[]=>none|c::_=>some c
 |none=>none
def Dr(b off n:Nat):Addr.add ⟨b,off,none⟩ n=⟨b,off+n,none⟩:=by
 unfold Addr.add;split;·grind
 rfl
section
variable {P:Program}{w:World}
def pJ{t:TypeId}{n:Nat}(h:sizeT P t=some n):(sizeOf t).run P w=.ok n w:=by unfold sizeT at h;cases a:P.info? t with|none=>rw[a]at h;cases h|some i=>rw[a]at h;simp at h;simp[sizeOf,typeInfo,a,h]
def PN{t:TypeId}{b:Bool}(h:QN P t=some b):(isAgg t).run P w=.ok b w:=by unfold QN at h;unfold isAgg;cases u:P.underlying t with|none=>rw[u]at h;cases h|some d=>rw[u]at h;cases d<;>simp at h<;>subst h<;>simp[run_underlying u]
def run_loadCellsFrom{b off:Nat}(u:Nat->Value):∀(n i:Nat) (a:Array Value),(∀j,j<n->w.cell? ⟨b,off+(i+j),none⟩=some (u (i+j)))->
  (loadCellsFrom ⟨b,off,none⟩ i n a).run P w=.ok (a++((List.range n).map λj=>u (i+j)).toArray) w:=by
 intro n
 induction n with|zero=>intro i a _;simp[loadCellsFrom]|succ n d=>
  intro i a h;have c:=h 0 Cl;simp only[qAS]at c;simp only[loadCellsFrom,Dr,Sem.run_bind,run_load,c,Result.andThen_ok];rw[d (i+1) (a.push (u i)) (λj e=>by have:=h (j+1) Cl;rw[show i+1+j=i+(j+1)from by omega];exact this)];congr 1
  grind
end
def getD_drop{cs:An}{n j:Nat}:(cs.drop n).getD j .unk=cs.getD (n+j) .unk:=by grind
def Jm{P:Program}{w:World}{κ:aS}{pv:bU}{t:TypeId}{b off:Nat}{cs:An}{v:AV}(u:Nat->Value)
  (c:∀j,j<cs.length->w.cell? ⟨b,off+j,none⟩=some (u j)) (r:∀j,j<cs.length->Rel w κ pv (cs.getD j .unk) (u j)) (h:kC P t cs=some v):
  ∃x,(loadVar t ⟨b,off,none⟩).run P w=.ok x w/\Rel w κ pv v x:=by
 have l:∀n,n<=cs.length->(loadCells ⟨b,off,none⟩ n).run P w=.ok ((List.range n).map u).toArray w:=λn d=>by
  have:=run_loadCellsFrom (P:=P) (w:=w) (b:=b) (off:=off) u n 0 #[] (λj g=>by simpa using c j Cl);simpa[loadCells]using this
 unfold kC at h;split at h
 ·rename_i a;split at h
  ·rename_i n d;have k:n<=cs.length->∃x,(loadVar t ⟨b,off,none⟩).run P w=.ok x w/\Rel w κ pv (.agg (cs.take n)) x:=λe=>by
    refine⟨.agg ((List.range n).map u).toArray,by simp[loadVar,PN a,pJ d,l n e],.agg Cp λj g=>?_⟩
    grind
   grind
  ·cases h
 ·rename_i a;split at h
  ·cases h
  ·cases h;have f:=c 0 cn;have i:=r 0 cn;simp only[qAS]at f;exact⟨u 0,by simp[loadVar,PN a,f],by simpa[List.getD]using i⟩
 ·cases h
def wf_wrap(k:IntKind)(n:Int):sj k (k.wrap n):=by cases k<;>simp only[sj,IntKind.wrap,IntKind.min,IntKind.max,IntKind.signed,IntKind.bits]<;>simp<;>(try split)<;>omega
def aEg{k:IntKind}{a:Int}(h:sj k a)(b:Int):sj k (a.tmod b):=by
 have c:(a.tmod b).natAbs<=a.natAbs:=by rw[Int.natAbs_tmod];exact Nat.mod_le _ _
 have d:0<=a->0<=a.tmod b:=λh=>Int.tmod_nonneg b h;have e:a<=0->a.tmod b<=0:=λh=>by
  have:=Int.tmod_nonneg b (show 0<= -a by omega)
  simp_all
 have f:k.min<=0/\0<=k.max:=by cases k<;>decide
 unfold sj at *
 grind
def ajq(P:Program)(t:TypeId):Bool:=match P.underlying t with|some (.pointer _)=>true|_=>false
def ad1(P:Program)(t:TypeId):Bool:=match P.underlying t with|some .bool=>true|_=>false
def Nn:AV->Ax| .nilp=>some true| .ptr _ _=>some false| .eptr _=>some false| .flist n=>some n.isEmpty|_=>none
def nO(P:Program)(op:BinOp)(t:TypeId):AV->AV->Cd
 | .int k a,.int c b=>if k=c then(match op with
  | .add=>some (.int k (k.wrap (a+b)))
  | .sub=>some (.int k (k.wrap (a - b)))
  | .mul=>some (.int k (k.wrap (a*b)))
  | .quo=>if b=0 then none else some (.int k (k.wrap (a.tdiv b)))
  | .rem=>if b=0 then none else some (.int k (a.tmod b))
  | .eql=>some (.bool (a==b))
  | .neq=>some (.bool (a !=b))
  | .lss=>some (.bool (decide (a<b)))
  | .leq=>some (.bool (decide (a<=b)))
  | .gtr=>some (.bool (decide (b<a)))
  | .geq=>some (.bool (decide (b<=a)))
  | .shl=>if 0<=b/\b<=k.bits then some (.int k (k.wrap (a*2^b.toNat)))else none
  | .shr=>if 0<=b/\b<=k.bits then some (.int k (a.fdiv (2^b.toNat)))else none
  |_=>none)else none
 | .str a,.str b=>match op with
  | .add=>if a.length+b.length<=9223372036854775807 then some (.str (a++b))else none
  | .eql=>some (.bool (a==b))
  | .neq=>some (.bool (!(a==b)))
  | .lss=>some (.bool (Op.bytesLess a b))
  | .leq=>some (.bool (Op.bytesLess a b ||a==b))
  | .gtr=>some (.bool (!(Op.bytesLess a b ||a==b)))
  | .geq=>some (.bool (!(Op.bytesLess a b)))
  |_=>none
 | .bool a,.bool b=>if ad1 P t then(match op with
  | .eql=>some (.bool (a==b))
  | .neq=>some (.bool (!(a==b)))
  |_=>none)else none
 |x,.nilp=>if ajq P t then(match op,Nn x with
  | .eql,some b=>some (.bool b)
  | .neq,some b=>some (.bool (!b))
  |_,_=>none)else none
 |_,_=>none
section
variable {P:Program}{w:World}{κ:aS}{pv:bU}
def iq{op:BinOp}{t:TypeId}{x y:Operand}{k c:IntKind}{a b:Int}:(eqGuard op t x y (.int k a) (.int c b)).run P w=.ok () w:=by unfold eqGuard;cases op<;>simp
def UA{op:BinOp}{t:TypeId}{x y:Operand}{a b:ByteArray}:(eqGuard op t x y (.string a) (.string b)).run P w=.ok () w:=by unfold eqGuard;cases op<;>simp
def RA{op:BinOp}{t:TypeId}{x y:Operand}{a b:Bool}:(eqGuard op t x y (.bool a) (.bool b)).run P w=.ok () w:=by unfold eqGuard;cases op<;>simp
def T9{op:BinOp}{t:TypeId}{x y:Operand}{a b:Option Addr}:(eqGuard op t x y (.pointer a) (.pointer b)).run P w=.ok () w:=by unfold eqGuard;cases op<;>simp
def run_equal_bool{t:TypeId}{a b:Bool}(u:P.underlying t=some .bool):(Op.equal t (.bool a) (.bool b)).run P w=.ok (a==b) w:=by
 have h:∀d,(Op.equalIn (d+1) t (.bool a) (.bool b)).run P w=.ok (a==b) w:=λd=>by simp[Op.equalIn,run_underlying u]
 exact h 9999
def ZI{t e:TypeId}{a:Option Addr}(u:P.underlying t=some (.pointer e)):(Op.equal t (.pointer a) (.pointer none)).run P w=.ok a.isNone w:=by
 have h:∀d,(Op.equalIn (d+1) t (.pointer a) (.pointer none)).run P w=.ok a.isNone w:=λd=>by cases a<;>simp[Op.equalIn,run_underlying u]
 exact h 9999
def amZ{x:AV}{u:Value}{b:Bool}(h:Rel w κ pv x u)(c:Nn x=some b):∃a,u=.pointer a/\a.isNone=b:=by cases h<;>simp[Nn]at c<;>subst c<;>exact⟨_,rfl,rfl⟩
def aGV{k:IntKind}{a:Int}(h:sj k a)(n:Nat):sj k (a.fdiv (2^n)):=by
 have c:k.min<=0/\0<=k.max:=by cases k<;>decide
 let⟨d,f⟩:=h;have p:(0:Int)<2^n:=Int.pow_pos (by decide);have e:a.fdiv (2^n)=a/2^n:=qDa _ (qDk p);rw[e];constructor
 ·by_cases b:0<=a
  ·exact qDK c.1 (Int.ediv_nonneg b (qDk p))
  refine qDK d ?_;refine(Int.le_ediv_iff_mul_le p).2 ?_;have:a*2^n<=a*1:=Int.mul_le_mul_of_nonpos_left Cl Cl;omega
 by_cases b:0<=a
 ·exact qDK (Int.ediv_le_self _ b) f
 have:=Int.ediv_le_ediv p (show a<=0 by omega);rw[Int.zero_ediv]at this
 grind
def aw5{op:BinOp}{t:TypeId}{x y:Operand}{ax ay v:AV}{ux uy:Value}(hx:Rel w κ pv ax ux)(hy:Rel w κ pv ay uy)(h:nO P op t ax ay=some v):
  ∃u,(eqGuard op t x y ux uy).run P w=.ok () w∧(binOp op t ux uy).run P w=.ok u w∧Rel w κ pv v u:=by
 unfold nO at h;split at h
 ·cases hx;cases hy;split at h
  ·rename_i hk;subst hk;rename_i k a b _ _;cases op<;>simp only[Option.some.injEq,reduceCtorEq]at h
   case add=>subst h;exact⟨_,iq,by simp[binOp,Op.intArith],.int (wf_wrap _ _)⟩
   case sub=>subst h;exact⟨_,iq,by simp[binOp,Op.intArith],.int (wf_wrap _ _)⟩
   case mul=>subst h;exact⟨_,iq,by simp[binOp,Op.intArith],.int (wf_wrap _ _)⟩
   case quo=>
    split at h
    ·cases h
    rename_i hb;cases h;exact⟨_,iq,by simp[binOp,Op.intDiv,hb],.int (wf_wrap _ _)⟩
   case rem=>
    split at h
    ·cases h
    rename_i hb;cases h;exact⟨_,iq,by simp[binOp,Op.intDiv,hb],.int (aEg ‹_› b)⟩
   case eql=>subst h;exact⟨_,iq,by simp[binOp,Op.intCmp],.bool _⟩
   case neq=>subst h;exact⟨_,iq,by simp[binOp,Op.intCmp],.bool _⟩
   case lss=>subst h;exact⟨_,iq,by simp[binOp,Op.intCmp],.bool _⟩
   case leq=>subst h;exact⟨_,iq,by simp[binOp,Op.intCmp],.bool _⟩
   case gtr=>subst h;exact⟨_,iq,by simp[binOp,Op.intCmp],.bool _⟩
   case geq=>subst h;exact⟨_,iq,by simp[binOp,Op.intCmp],.bool _⟩
   case shl=>
    split at h
    ·rename_i hb;cases h;have hn:¬b<0:=by omega
     have hm:min b.toNat k.bits=b.toNat:=by omega
     exact⟨_,iq,by simp[binOp,Op.shift,hn,hm],.int (wf_wrap _ _)⟩
    cases h
   case shr=>
    split at h
    ·rename_i hb;cases h;have hn:¬b<0:=by omega
     have hm:min b.toNat k.bits=b.toNat:=by omega
     exact⟨_,iq,by simp[binOp,Op.shift,hn,hm],.int (aGV ‹_› _)⟩
    cases h
  cases h
 ·cases hx with
  |str ha=>cases hy with
   |str hb=>
    rename_i a b;cases op<;>simp only[Option.some.injEq,reduceCtorEq]at h
    case add=>
     split at h
     ·rename_i hl;cases h;refine⟨.string ⟨(a++b).toArray⟩,UA,?_,.str (by simpa using hl)⟩;have e:(ByteArray.mk a.toArray).size=a.length:=by simp[ByteArray.size]
      have e':(ByteArray.mk b.toArray).size=b.length:=by simp[ByteArray.size]
      have e2:(ByteArray.mk a.toArray++ByteArray.mk b.toArray)=ByteArray.mk (a++b).toArray:=by
       apply ByteArray.ext;simp
      simp only[binOp,Op.stringOp,e,e',e2];rw[if_neg (by simp[IntKind.max,IntKind.signed,IntKind.bits];omega)];rfl
     cases h
    all_goals(subst h;exact⟨_,UA,by simp[binOp,Op.stringOp],.bool _⟩)
 ·cases hx;cases hy;split at h
  ·rename_i hb;have hu:P.underlying t=some .bool:=by unfold ad1 at hb;split at hb<;>first|assumption|cases hb
   cases op<;>simp only[Option.some.injEq,reduceCtorEq]at h
   case eql=>subst h;exact⟨_,RA,by simp[binOp,run_equal_bool hu],.bool _⟩
   case neq=>subst h;exact⟨_,RA,by simp[binOp,run_equal_bool hu],.bool _⟩
  cases h
 ·cases hy;split at h
  ·rename_i hb;obtain⟨e,hu⟩:∃e,P.underlying t=some (.pointer e):=by unfold ajq at hb;split at hb<;>first|exact⟨_,by assumption⟩|cases hb
   split at h
   ·rename_i b hn;cases h;obtain⟨a,rfl,ha⟩:=amZ hx hn;exact⟨.bool b,T9,by simp[binOp,ZI hu,ha],.bool _⟩
   ·rename_i b hn;cases h;obtain⟨a,rfl,ha⟩:=amZ hx hn;exact⟨.bool !b,T9,by simp[binOp,ZI hu,ha],.bool _⟩
   cases h
  cases h
 cases h
end
def eO:AV->Option An| .agg c=>some c| .unk=>none| .tup _=>none|v=>some [v]
def lH(place:Nat->Option (Nat×Nat)):An->List (Nat×AV)->Option An|cells,[]=>some cells|cells,(i,v)::r=>match place i,eO v with|some (o,s),some c=>if c.length=s/\o+s<=cells.length then lH place (cells.take o++c++cells.drop (o+s)) r else none|_,_=>none
def FX(P:Program)(t:TypeId)(i:Nat):Option (Nat×Nat):=
 match P.underlying t with|some (.struct s)=>(s[i]?).bind λf=>(sizeT P f.type).map λn=>(f.offset,n)|_=>none
def lI(P:Program)(t:TypeId):Option An:=(P.info? t).bind λi=>i.zero.map λz=>z.cells.toList.map ofConst
def zP(P:Program)(t:TypeId):Bool:=match P.underlying t with|some (.struct s)=>s.toList.all λf=>(P.info? f.type).isSome|_=>false
def eX(v:Cd)(d t:Nat):Bx:=
 match v with|none=>some d|some (.int _ n)=>if 0<=n/\n<=t then some n.toNat else none|some _=>none
def zB:List An->Option By|[]=>some []|e::r=>match e with|[.int .u8 n]=>(zB r).map (UInt8.ofNat n.toNat::·)|_=>none
def ace(P:Program)(s t:TypeId):Bool:=
 match P.underlying s,P.underlying t with
 |some (.slice e),some .string=>(match P.underlying e with|some (.int .u8)=>true|_=>false)
 |_,_=>false
def ahf(P:Program)(t:TypeId):Bx:=match P.underlying t with|some (.array _ e)=>sizeT P e|_=>none
def aC(P:Program)(op:Op)(ρ:Operand->AV):Cd:=
 match op with
 | .move x=>some (ρ x)
 | .assign x=>some (ρ x)
 | .pick c x y=>match ρ c with
  | .bool t=>some (if t then ρ x else ρ y)
  |_=>none
 | .nilCheck x=>match ρ x with
  | .ptr l o=>some (.ptr l o)
  | .eptr d=>some (.eptr d)
  | .func f d=>some (.func f d)
  | .flist (d::r)=>some (.eptr (d++[.flist r]))
  |_=>none
 | .binOp op t x y _=>nO P op t (ρ x) (ρ y)
 | .unOp op _ x=>match op,ρ x with
  | .not,.bool b=>some (.bool (!b))
  | .neg,.int k n=>some (.int k (k.wrap (0 - n)))
  |_,_=>none
 | .fieldAddr s x f=>match Bo P s f with
  |some (q,_)=>match ρ x with
   | .ptr l o=>some (.ptr l (o+q))
   | .eptr d=>some (.eptr (d.drop q))
   |_=>none
  |none=>none
 | .field s x f=>match Bo P s f with
  |some (q,t)=>match ρ x with
   | .agg d=>kC P t (d.drop q)
   |_=>none
  |none=>none
 | .indexAddr t x i=>match ρ i with
  | .int _ n=>match P.underlying t with
   |some (.slice e)=>match ρ x,sizeT P e with
    | .slice g _,some j=>if 0<=n/\n<g.length/\(g.getD n.toNat []).length=j then some (.eptr (g.getD n.toNat []))else none
    | .psl l z m,some j=>if 0<=n/\n<m/\z=j then some (.ptr l (n.toNat*j))else none
    |_,_=>none
   |some (.array m e)=>match ρ x,sizeT P e with
    | .ptr l o,some j=>if 0<=n/\n<m then some (.ptr l (o+n.toNat*j))else none
    | .eptr d,some j=>if 0<=n/\n<m then some (.eptr (d.drop (n.toNat*j)))else none
    |_,_=>none
   |_=>none
  |_=>none
 | .index t x i=>match ρ i,ρ x with
  | .int _ n,.str s=>if isStrT P t/\0<=n/\n<s.length then some (.int .u8 (s.getD n.toNat 0).toNat)else none
  |_,_=>none
 | .extract x i=>match ρ x with
  | .tup B=>if i<B.length then some (B.getD i .unk)else none
  |_=>none
 | .slice t x v w none=>match ρ x with
  | .str s=>if isStrT P t then(match eX (w.map ρ) s.length s.length with
   |some h=>match eX (v.map ρ) 0 h with
    |some l=>some (.str ((s.drop l).take (h - l)))
    |none=>none
   |none=>none)else none
  | .slice g _=>match sliceT P t with
   |some j=>match eX (w.map ρ) g.length g.length with
    |some h=>match eX (v.map ρ) 0 h with
     |some l=>if l<g.length->(g.getD l []).length=j then some (.slice ((g.drop l).take (h - l)) .shared)else none
     |none=>none
    |none=>none
   |none=>none
  | .psl l z n=>match sliceT P t,v with
   |some _,none=>match eX (w.map ρ) n n with
    |some h=>some (.psl l z h)
    |none=>none
   |_,_=>none
  |_=>none
 | .build t parts=>if zP P t then(match lI P t with
  |some z=>(lH (FX P t) z (parts.toList.map λp=>(p.1,ρ p.2))).map .agg
  |none=>none)else(match ahf P t,lI P t with
  |some j,some z=>(lH (λi=>some (i*j,j)) z (parts.toList.map λp=>(p.1,ρ p.2))).map .agg
  |_,_=>none)
 | .makeFunc (.func f) first u=>if first.size=0 then some (.func f (u.toList.map ρ))else none
 | .load t x=>match ρ x with
  | .eptr d=>kC P t d
  |_=>none
 | .convert s t x=>match ρ x,convT P s t with
  | .int _ n,some k=>some (.int k (k.wrap n))
  | .slice g _,none=>if ace P s t then(zB g).map .str else none
  |_,_=>none
 | .call {callee:=.builtin .len,args,argTypes}=>match args.toList,argTypes.toList with
  |[x],[t]=>match ρ x with
   | .str s=>if isStrT P t then some (.int .i64 s.length)else none
   | .slice g _=>if(sliceT P t).isSome then some (.int .i64 g.length)else none
   | .psl _ _ n=>if(sliceT P t).isSome then some (.int .i64 n)else none
   |_=>none
  |_,_=>none
 | .call {callee:=.builtin .max,args,argTypes:=_}=>match args.toList with
  |[x,y]=>match ρ x,ρ y with
   | .int k a,.int A b=>if k=A then some (.int k (if b>a then b else a))else none
   |_,_=>none
  |_=>none
 | .call {callee:=.builtin .min,args,argTypes:=_}=>match args.toList with
  |[x,y]=>match ρ x,ρ y with
   | .int k a,.int A b=>if k=A then some (.int k (if b<a then b else a))else none
   |_,_=>none
  |_=>none
 |_=>none
where
 isStrT (P:Program) (t:TypeId):Bool:=match P.underlying t with|some .string=>true|_=>false
 sliceT (P:Program) (t:TypeId):Bx:=match P.underlying t with|some (.slice e)=>sizeT P e|_=>none
 convT (P:Program) (s t:TypeId):Option IntKind:=match P.underlying s,P.underlying t with|some (.int _),some (.int k)=>some k|_,_=>none
section
variable {P:Program}{w:World}{κ:aS}{pv:bU}
theorem afD{s f o t:Nat}(h:Bo P s f=some (o,t)):∃a l,P.underlying s=some (.struct a)/\a[f]? =some l/\l.offset=o/\l.type=t/\∃n,sizeT P t=some (n+1):=by
 unfold Bo at h
 grind
def afN{s f o t b off:Nat}(h:Bo P s f=some (o,t)):(Instr.fieldAt s (.pointer (some ⟨b,off,none⟩)) f).run P w=.ok (.pointer (some ⟨b,off+o,none⟩)) w:=by obtain⟨d,l,u,a,rfl,rfl,n,c⟩:=afD h;simp[Instr.fieldAt,run_underlying u,a,Instr.sureAddr,fieldPlace,pJ c,Dr]
def ajp{s f:Nat}{x v:AV}{u:Value}(h:(match Bo P s f with|some (b,_)=>(match x with| .ptr l o=>some (AV.ptr l (o+b))| .eptr c=>some (.eptr (c.drop b))|_=>none)|none=>none)=some v)(d:Rel w κ pv x u):
  ∃y,(Instr.fieldAt s u f).run P w=.ok y w/\Rel w κ pv v y:=by
 split at h
 ·rename_i b t a;cases d with
  |ptr e=>cases h;exact⟨_,afN a,.ptr e⟩
  |eptr y g k m=>
   cases h;refine⟨_,afN a,.eptr (λj=>y (b+j)) ?_ ?_ ?_⟩
   ·intro j i;simp at i;rw[qBN];exact g _ Cl
   ·grind
   grind
  |_=>cases h
 cases h
def aAb{t f:Nat}{cs:An}{vs:List Value}{v:AV}(s:vs.length=cs.length)(d:∀j,j<cs.length->Rel w κ pv (cs.getD j .unk) (vs.getD j undef))(h:kC P t (cs.drop f)=some v):
  ∃y,(part t vs.toArray f).run P w=.ok y w/\Rel w κ pv v y:=by
 unfold kC at h;have k:∀n,QN P t=some true->sizeT P t=some n->n<=(cs.drop f).length->∃y,(part t vs.toArray f).run P w=.ok y w/\Rel w κ pv (.agg ((cs.drop f).take n)) y:=λn a g m=>by
  refine⟨.agg ((vs.drop f).take n).toArray,?_,.agg ?_ ?_⟩;·simp[part,PN a,pJ g]
  ·grind
  grind
 split at h;·grind
 ·rename_i a;split at h
  ·cases h
  ·rename_i c r o;cases h;have l:f<cs.length:=by grind
   have e:=d f l;have p:cs.getD f .unk=v:=by
    have:cs.drop f=v::r:=o;have u:=qCb (xs:=cs) (i:=f) (j:=0)
    grind
   rw[p]at e;obtain⟨y,b⟩:∃y,vs[f]? =some y:=⟨_,qAc (show f<vs.length by omega)⟩;have q:vs.getD f undef=y:=by rw[List.getD,b];rfl
   rw[q]at e;exact⟨y,by simp[part,PN a,b],e⟩
 ·cases h
def at7{s f:Nat}{x v:AV}{u:Value}(h:(match Bo P s f with|some (o,t)=>(match x with| .agg c=>kC P t (c.drop o)|_=>none)|none=>none)=some v)(b:Rel w κ pv x u):
  ∃y,(Instr.field s u f).run P w=.ok y w/\Rel w κ pv v y:=by
 split at h;·rename_i o t a;cases b with|agg l r=>obtain⟨k,d,e,g,rfl,rfl,n,m⟩:=afD a;let⟨y,i,j⟩:=aAb l r h;exact⟨y,by simp[Instr.field,run_underlying e,g,asAgg,i],j⟩|_=>cases h
 cases h
def adt{t:Nat}(h:aC.isStrT P t=true):P.underlying t=some .string:=by unfold aC.isStrT at h;split at h<;>first|assumption|cases h
def MX{t n:Nat}(h:aC.sliceT P t=some n):∃e,P.underlying t=some (.slice e)/\sizeT P e=some n:=by unfold aC.sliceT at h;split at h<;>first|exact⟨_,by assumption,h⟩|cases h
def size_mk(s:By):(ByteArray.mk s.toArray).size=s.length:=by simp[ByteArray.size]
def ant{v:Option Value}{av:Cd}{t d n:Nat}{code:BoundsCode}(a:match av,v with|none,none=>True|some x,some u=>Rel w κ pv x u|_,_=>False)(h:eX av d t=some n):
  (match v with|some u=>Instr.sliceBound u t code|none=>pure d).run P w=.ok n w:=by
 unfold eX at h;split at h;·cases h;cases v with|none=>simp|some u=>exact a.elim
 ·rename_i k m;split at h
  ·rename_i b;cases h;cases v with|none=>exact a.elim|some u=>cases(a:Rel w κ pv _ u);simp[Instr.sliceBound,asIntOf,b]
  cases h
 cases h
def JG{isS:Bool}{len cap l h:Nat}{lo hi:Option Value}{alo a:Cd}
  (o:match alo,lo with|none,none=>True|some x,some u=>Rel w κ pv x u|_,_=>False)
  (i:match a,hi with|none,none=>True|some x,some u=>Rel w κ pv x u|_,_=>False) (j:len<=cap) (c:eX a len len=some h) (h2:eX alo 0 h=some l):
  (Instr.sliceBounds isS len cap lo hi none).run P w=.ok (l,h,cap) w/\l<=h/\h<=len:=by
 have g:eX a len cap=some h:=by
  unfold eX at c|-
  grind
 have d:=ant (P:=P) (code:=if isS then BoundsCode.sliceAcap else BoundsCode.sliceAlen) i g;have f:=ant (P:=P) (code:=BoundsCode.sliceB) o h2;have b:l<=h:=by
  unfold eX at h2
  grind
 have e:h<=len:=by
  unfold eX at c
  grind
 refine⟨?_,b,e⟩;cases lo<;>cases hi<;>simp[Instr.sliceBounds]at d f|-<;>simp[d,f]
end
def aBA(l:List Value):∀(k off:Nat) (c:Array Value),off+k+l.length<=c.size->
  ((l.zipIdx k).foldl (λs p=>s.setIfInBounds (off+p.2) p.1) c).size=c.size/\
  ∀i,((l.zipIdx k).foldl (λs p=>s.setIfInBounds (off+p.2) p.1) c).getD i undef=if off+k<=i/\i<off+k+l.length then l.getD (i - (off+k)) undef else c.getD i undef:=by
 induction l with
 |nil=>intro k off c _;refine⟨by simp,λi=>?_⟩;rw[if_neg (by simp<;>omega)];simp
 |cons x l a=>
  intro k off c h;simp only[qAp]at h;let⟨b,d⟩:=a (k+1) off (c.setIfInBounds (off+k) x) Cp;simp only[List.zipIdx_cons,qBg];refine⟨by rw[b];simp,λi=>?_⟩;rw[d i];by_cases e:off+(k+1)<=i/\i<off+(k+1)+l.length
  ·grind
  rw[if_neg e];by_cases f:i=off+k
  ·subst f;rw[sW Cl,if_pos cn]
   grind
  rw[nQ Cl,if_neg Cp]
section
variable {P:Program}{w:World}{κ:aS}{pv:bU}
def M6{v:AV}{u:Value}{cs:An}(h:Rel w κ pv v u)(c:eO v=some cs):u.cells.size=cs.length/\∀j,j<cs.length->Rel w κ pv (cs.getD j .unk) (u.cells.getD j undef):=by
 cases h with|agg b d=>cases c;exact⟨by simpa[Value.cells]using b,λj a=>by simpa[Value.cells,qAq,List.getD]using d j a⟩|unk=>cases c|tup=>cases c|_=>
  cases c;refine⟨by simp[Value.cells],λj a=>?_⟩;simp at a;obtain rfl:j=0:=by omega
  first
   |exact .int ‹_›|exact .bool _|exact .str ‹_›|exact .nilp|exact .ifc _ _|exact .ptr ‹_›|exact .eptr _ ‹_› ‹_› ‹_›|exact .slice _ _ _ _ ‹_› ‹_› ‹_› ‹_› ‹_› ‹_› ‹_› ‹_›|exact .func ‹_› ‹_›|exact .mapr ‹_›|exact .psl ‹_› ‹_› ‹_›|exact .flnil|exact .flcons _ _ ‹_› ‹_› ‹_› ‹_› ‹_›|exact .nilFunc
def Yf{place:Nat->Option (Nat×Nat)}:∀(parts:List (Nat×AV)) (a:List (Nat×Value)) (cs out:An) (c:Array Value),
  parts.length=a.length->(∀j,j<parts.length->(parts.getD j (0,.unk)).1=(a.getD j (0,undef)).1/\Rel w κ pv (parts.getD j (0,.unk)).2 (a.getD j (0,undef)).2)->
  c.size=cs.length->(∀j,j<cs.length->Rel w κ pv (cs.getD j .unk) (c.getD j undef))->lH place cs parts=some out->
  ∃b,Instr.fill place c a=some b/\b.size=out.length/\∀j,j<out.length->Rel w κ pv (out.getD j .unk) (b.getD j undef):=by
 intro parts
 induction parts with
 |nil=>
  intro a cs out c d _ z r h;cases a with
  |nil=>simp only[lH,Option.some.injEq]at h;subst h;exact⟨c,rfl,z,r⟩
  |cons=>simp at d
 |cons p parts G=>
  intro a cs out c d C z r h;cases a with
  |nil=>simp at d
  |cons q a=>
   let⟨i,v⟩:=p;let⟨M,u⟩:=q;have D:=C 0 cn;simp only[List.getD,qAG,qAw]at D;obtain⟨rfl,H⟩:=D;simp only[lH]at h;split at h
   ·rename_i o s e k m;split at h
    ·rename_i n;let⟨N,O⟩:=n;let⟨I,t⟩:=M6 H m;have E:=aBA u.cells.toList 0 o c Cp;simp only[qAS,qBZ]at E;let⟨x,y⟩:=E;have l:(cs.take o++e++cs.drop (o+s)).length=cs.length:=by simp;omega
     have:=G a _ out ((u.cells.toList.zipIdx 0).foldl (λcs p=>cs.setIfInBounds (o+p.2) p.1) c) (by simpa using d)
      (λj g=>by have:=C (j+1) (by simpa using g);simpa[List.getD]using this) (by rw[x,z,l]) ?_ h
     ·let⟨b,J,K,L⟩:=this;refine⟨b,?_,K,L⟩;have f:u.cells.zipIdx.foldl (λcs (c,j)=>cs.setIfInBounds (o+j) c) c=(u.cells.toList.zipIdx 0).foldl (λcs p=>cs.setIfInBounds (o+p.2) p.1) c:=by
       rw[<-Array.foldl_toList];simp
      simp only[Instr.fill,k];rw[if_neg Cp];rw[f];exact J
     intro j g;rw[l]at g;rw[y j];by_cases F:o<=j/\j<o+u.cells.size
     ·rw[if_pos F];have:=t (j - o) Cl;have A:(cs.take o++e++cs.drop (o+s)).getD j .unk=e.getD (j - o) .unk:=by
       simp only[List.getD];rw[qAm,qAl Cp,qAg Cp];simp[show min o cs.length=o by omega]
      rw[A];simpa[qAq,List.getD]using this
     rw[if_neg F];have A:(cs.take o++e++cs.drop (o+s)).getD j .unk=cs.getD j .unk:=by
      simp only[List.getD];by_cases B:j<o
      ·rw[qAm,qAg Cp];simp[qBq,B]
      rw[qAl Cp];simp only[qAe,qAz,qCb];congr 2;omega
     rw[A];exact r j g
    cases h
   cases h
def Uy{t e sz n b off:Nat}{k:IntKind}{m:Int}{len cap:Nat}(h:P.underlying t=some (.slice e))(hs:sizeT P e=some sz)(h0:0<=m)(a:m<len)(c:m.toNat=n):
  (Instr.indexAt t (.slice (some ⟨b,off,none⟩) len cap) (.int k m)).run P w=.ok (.pointer (some ⟨b,off+n*sz,none⟩)) w:=by subst c;simp[Instr.indexAt,asIntOf,run_underlying h,h0,a,pJ hs,Dr]
def TW{t e sz n b off len:Nat}{k:IntKind}{m:Int}(h:P.underlying t=some (.array len e))(hs:sizeT P e=some sz)(h0:0<=m)(a:m<len)(c:m.toNat=n):
  (Instr.indexAt t (.pointer (some ⟨b,off,none⟩)) (.int k m)).run P w=.ok (.pointer (some ⟨b,off+n*sz,none⟩)) w:=by subst c;simp[Instr.indexAt,asIntOf,run_underlying h,Instr.sureAddr,h0,a,pJ hs,Dr]
def akk{t:Nat}{x i v:AV}{u K:Value}(r:Rel w κ pv x u)(hi:Rel w κ pv i K)(h:aC P (.indexAddr t (.tmp 0) (.tmp 1)) (λo=>match o with| .tmp 0=>x|_=>i)=some v):
  ∃y,(Instr.indexAt t u K).run P w=.ok y w/\Rel w κ pv v y:=by
 simp only[aC]at h;cases hi with
 |@int k n O=>
  simp only at h;split at h
  ·rename_i e p;cases s:sizeT P e with
   |none=>rw[s]at h;cases r<;>cases h
   |some A=>
    rw[s]at h;cases r with
    |@slice Q R a B b S C f D E L T U V W M=>
     dsimp only at h;split at h
     ·rename_i g;cases h;let⟨F,G,X⟩:=g;have d:n.toNat<Q.length:=by omega
      have H:C=A:=by rw[<-D _ d];exact X
      subst H;have I:=E (by intro q;subst q;simp at d);subst I;refine⟨_,Uy p s F G rfl,.eptr (f n.toNat) ?_ ?_ ?_⟩
      ·intro j m;rw[qBN];exact U _ _ d Cl
      ·intro j m;rw[qBN];exact V _ _ d Cl
      intro j m;exact W _ _ d Cl
     cases h
    |@psl l z J B a Y Z M=>
     dsimp only at h;split at h
     ·rename_i g;cases h;obtain⟨F,G,rfl⟩:=g;obtain⟨_,⟨_,N⟩|⟨b,c,e,hb,I,_,_⟩⟩:=M
      ·omega
      subst I;refine⟨_,Uy p s F G rfl,?_⟩;rw[qAL];exact .ptr hb
     cases h
    |_=>cases h
  ·rename_i J e p;cases s:sizeT P e with
   |none=>rw[s]at h;cases r<;>cases h
   |some A=>
    rw[s]at h;cases r with
    |ptr hl=>
     dsimp only at h;split at h
     ·rename_i g;cases h;exact⟨_,TW p s g.1 g.2 rfl,.ptr hl⟩
     cases h
    |eptr f D E L=>
     dsimp only at h;split at h
     ·rename_i g;cases h;refine⟨_,TW p s g.1 g.2 rfl,.eptr (λj=>f (n.toNat*A+j)) ?_ ?_ ?_⟩
      ·intro j m;simp at m;rw[qBN];exact D _ Cl
      ·intro j m;simp at m;rw[qBN];exact E _ Cl
      intro j m;simp at m;rw[getD_drop];exact L _ Cl
     cases h
    |_=>cases h
  cases h
 |_=>cases h
def aut{t:Nat}{x i v:AV}{u a:Value}(h:(match i,x with
  | .int _ n,.str s=>if aC.isStrT P t/\0<=n/\n<s.length then some (AV.int .u8 (s.getD n.toNat 0).toNat)else none
  |_,_=>none)=some v) (b:Rel w κ pv x u) (hi:Rel w κ pv i a):∃y,(Instr.index t u a).run P w=.ok y w/\Rel w κ pv v y:=by
 cases hi with
 |int f=>cases b with
  |str o=>
   rename_i k n s;simp only at h;split at h
   ·rename_i c;cases h;let⟨d,g,p⟩:=c;refine⟨.int .u8 (s.getD n.toNat 0).toNat,?_,.int ?_⟩
    ·have l:n.toNat<s.length:=by omega
     have e:(ByteArray.mk s.toArray)[n.toNat]? =some (s.getD n.toNat 0):=by
      have j:n.toNat<(ByteArray.mk s.toArray).size:=by rw[size_mk];exact l
      rw[getElem?_pos (ByteArray.mk s.toArray) n.toNat j];simp only[List.getD,qAc l,qAw];rfl
     simp[Instr.index,asIntOf,run_underlying (adt d),g,e]
    have:=(s.getD n.toNat 0).toNat_lt;generalize (s.getD n.toNat 0).toNat=m at *;simp only[sj,IntKind.min,IntKind.max,IntKind.signed,IntKind.bits];simp;omega
   cases h
  |_=>cases h
 |_=>cases b<;>cases h
def atE{t l d sz:Nat}{es:List An}{tag:Tag}{a:Option Addr}{len cap:Nat}(q:Rel w κ pv (.slice es tag) (.slice a len cap))(z:aC.sliceT P t=some sz)(r:l<=d)(g:d<=es.length)
  (u:l<es.length->(es.getD l []).length=sz):
  Rel w κ pv (.slice ((es.drop l).take (d - l)) .shared) (.slice (if cap=l then a else a.map (·.add (l*sz))) (d - l) (cap - l)):=by
 cases q with|slice b o s f m v D y A B C E=>
  have h:((es.drop l).take (d - l)).length=d - l:=by simp;omega
  have x:∀i,i<d - l->((es.drop l).take (d - l)).getD i []=es.getD (l+i) []:=λi c=>by simp[c]
  have:=Rel.slice (w:=w) (κ:=κ) (pv:=pv) (es:=(es.drop l).take (d - l)) (tag:=.shared) (a:=if cap=l then a else a.map (·.add (l*sz))) (cap:=cap - l) b (o+l*s) s (λi j=>f (l+i) j)
   (λi c=>by rw[h]at c;rw[x i c];exact m _ Cl)
   (λn=>by
    have p:0<d - l:=by rw[<-h];exact qCn.2 n
    rw[if_neg Cl,v (by intro e;subst e;simp at g;omega),qAx,Dr];have:s=sz:=by rw[<-m l Cl];exact u Cl
    rw[this])
   (by rw[h];omega) (by rw[h];omega)
   (λi j c k=>by rw[h]at c;have:=A (l+i) j Cl k;rw[qAU]at this;rw[show o+l*s+(i*s+j)=o+(l*s+i*s+j)from by omega];exact this)
   (λi j c k=>by rw[h]at c;have:=B (l+i) j Cl k;rw[qAU]at this;rw[show o+l*s+(i*s+j)=o+(l*s+i*s+j)from by omega];exact this)
   (λi j c k=>by rw[h]at c;rw[x i c];exact C (l+i) j Cl k) trivial
  grind
def acd{ρ:Operand->AV}{ev:Operand->Value}(h:∀x,Rel w κ pv (ρ x) (ev x))(o:Option Operand):(match o.map ρ,o.map ev with|none,none=>True|some x,some u=>Rel w κ pv x u|_,_=>False):=by cases o with|none=>trivial|some x=>exact h x
def ayh{s t:Nat}{k:IntKind}(h:aC.convT P s t=some k):∃a,P.underlying s=some (.int a)/\P.underlying t=some (.int k):=by
 unfold aC.convT at h
 grind
def run_places{fs:Array Field}{places:Array (Nat×Nat)}(h:∀i:Nat,(fs[i]?).map (λf=>(sizeT P f.type).map λn=>(f.offset,n))=(places[i]?).map some)(hs:fs.size=places.size):
  (fs.mapM λ(f:Field)=>do pure (f.offset,<-sizeOf f.type):Sem (Array (Nat×Nat))).run P w=.ok places w:=by
 have k:∀(l:List Field) (p:List (Nat×Nat)),l.length=p.length->(∀i:Nat,(l[i]?).map (λf=>(sizeT P f.type).map λn=>(f.offset,n))=(p[i]?).map some)->
   (l.mapM λ(f:Field)=>do pure (f.offset,<-sizeOf f.type):Sem (List (Nat×Nat))).run P w=.ok p w:=by
  intro l
  induction l with
  |nil=>intro p b _;cases p with|nil=>simp|cons=>simp at b
  |cons f l d=>
   intro p b c;cases p with
   |nil=>simp at b
   |cons q p=>
    have a:=c 0;simp only[qAG,qAx]at a;cases s:sizeT P f.type with
    |none=>rw[s]at a;cases a
    |some n=>
     rw[s]at a;simp at a;have:=d p (by simpa using b) (λi=>by simpa using c (i+1));rw[List.mapM_cons];simp only[Sem.run_bind,pJ s,Result.andThen_ok,Sem.run_pure,this,a]
 have:=k fs.toList places.toList (by simpa using hs) (λi=>by simpa using h i);rw[qCp]
 simp_all
def atT{t:Nat}{ρ:Operand->AV}{ev:Operand->Value}{parts:Array (Nat×Operand)}{z cs:An}(n:∀x,Rel w κ pv (ρ x) (ev x))(s:zP P t=true)(b:lI P t=some z)
  (h:lH (FX P t) z (parts.toList.map λp=>(p.1,ρ p.2))=some cs):∃y,(Instr.build t (parts.map λp=>(p.1,ev p.2))).run P w=.ok y w/\Rel w κ pv (.agg cs) y:=by
 unfold zP at s;split at s
 ·rename_i d u;unfold lI at b;cases r:P.info? t with
  |none=>rw[r]at b;cases b
  |some i=>
   rw[r]at b;simp only[qAb]at b;cases v:i.zero with
   |none=>rw[v]at b;cases b
   |some m=>
    rw[v]at b;simp at b;subst b;have k:∀f∈d.toList,(P.info? f.type).isSome:=λf c=>qAP.1 s f c
    let l:Array (Nat×Nat):=(d.toList.map λf=>(f.offset,(sizeT P f.type).getD 0)).toArray
    have o:∀f∈d.toList,sizeT P f.type=some ((sizeT P f.type).getD 0):=λf c=>by
     have:=k f c;unfold sizeT;cases B:P.info? f.type with
     |none=>rw[B]at this;cases this
     |some x=>rfl
    have a:∀i:Nat,FX P t i=l[i]?:=λi=>by
     simp only[FX]
     grind
    have A:=run_places (P:=P) (w:=w) (fs:=d) (places:=l) (λi=>by
     rw[<-a i];simp only[FX,u];rw[<-qCE];cases c:d.toList[i]? with
     |none=>simp
     |some f=>simp;rw[o f (qAF c)];rfl) (by simp[l])
    have c:=Yf (w:=w) (κ:=κ) (pv:=pv) (place:=λi=>l[i]?) (parts.toList.map λp=>(p.1,ρ p.2)) (parts.toList.map λp=>(p.1,ev p.2)) (m.cells.toList.map ofConst) cs m.cells cn
     (λj g=>by
      simp at g;simp only[List.getD,qAE,qAc g,qAx,qAw];exact⟨trivial,n _⟩) cn
     (λj g=>by
      simp at g;have:(m.cells.toList.map ofConst).getD j .unk=ofConst (m.cells.getD j undef):=by
       simp_all
      rw[this];exact xB _)
     (by
      have e:FX P t=λi=>l[i]?:=funext a;rw[<-e];exact h)
    let⟨q,E,C,D⟩:=c;refine⟨.agg q,?_,?_⟩
    ·have e:(parts.map λp=>(p.1,ev p.2)).toList=parts.toList.map λp=>(p.1,ev p.2):=by simp
     simp only[Instr.build,zeroValue,typeInfo,Sem.run_bind,run_underlying u]
     simp_all
    have e:q=q.toList.toArray:=by simp
    rw[e];refine .agg (by simpa using C) λj g=>?_;have:=D j g;simpa[qAq,List.getD]using this
 cases s
def Rel.uG{k:IntKind}{n:Int}{u:Value}(h:Rel w κ pv (.int k n) u):u=.int k n/\sj k n:=by cases h;exact⟨rfl,‹_›⟩
def Rel.Ra{b:Bool}{u:Value}(h:Rel w κ pv (.bool b) u):u=.bool b:=by cases h;rfl
def Rel.BK{s:By}{u:Value}(h:Rel w κ pv (.str s) u):u=.string ⟨s.toArray⟩/\s.length<=9223372036854775807:=by cases h;exact⟨rfl,‹_›⟩
def Rel.sD{l o:Nat}{u:Value}(h:Rel w κ pv (.ptr l o) u):∃b,u=.pointer (some ⟨b,o,none⟩)/\at? κ l=some b:=by cases h;exact⟨_,rfl,‹_›⟩
def Rel.aqu{cs:An}{u:Value}(h:Rel w κ pv (.eptr cs) u):∃(b o:Nat) (y:Nat->Value),u=.pointer (some ⟨b,o,none⟩)/\(∀j,j<cs.length->¬pv b (o+j))/\(∀j,j<cs.length->w.cell? ⟨b,o+j,none⟩=some (y j))/\
  (∀j,j<cs.length->Rel w κ pv (cs.getD j .unk) (y j)):=by cases h with|eptr y a c d=>exact⟨_,_,y,rfl,a,c,d⟩
def Rel.mY{es:List An}{t:Tag}{u:Value}(h:Rel w κ pv (.slice es t) u):∃a c,u=.slice a es.length c/\es.length<=c/\es.length<=9223372036854775807:=by cases h with|slice _ _ _ _ _ _ b d _ _ _ _=>exact⟨_,_,rfl,b,d⟩
def Rel.LD{f:Nat}{cs:An}{u:Value}(h:Rel w κ pv (.func f cs) u):∃v:List Value,u=.func (.func f) #[] v.toArray/\v.length=cs.length/\∀j,j<cs.length->Rel w κ pv (cs.getD j .unk) (v.getD j undef):=by cases h with|func a b=>exact⟨_,rfl,a,b⟩
def Rel.alB{cs:An}{u:Value}(h:Rel w κ pv (.tup cs) u):∃v:List Value,u=.tuple v.toArray/\v.length=cs.length/\∀j,j<cs.length->Rel w κ pv (cs.getD j .unk) (v.getD j undef):=by cases h with|tup a b=>exact⟨_,rfl,a,b⟩
def Rel.avH{cs:An}{u:Value}(h:Rel w κ pv (.agg cs) u):∃v:List Value,u=.agg v.toArray/\v.length=cs.length/\∀j,j<cs.length->Rel w κ pv (cs.getD j .unk) (v.getD j undef):=by cases h with|agg a b=>exact⟨_,rfl,a,b⟩
def ae3:∀{es:List An} {y:By},zB es=some y->∃x:A2,x.length=es.length/\(∀i,i<es.length->es.getD i []=[.int .u8 (x.getD i 0)])/\y=x.map λn=>UInt8.ofNat n.toNat
 |[],y,h=>by simp only[zB,Option.some.injEq]at h;subst h;exact⟨[],rfl,λi b=>(by cases b),rfl⟩
 |e::r,y,h=>by
  simp only[zB]at h;split at h
  ·rename_i n;cases a:zB r with
   |none=>rw[a]at h;cases h
   |some z=>
    rw[a]at h;simp at h;subst h;let⟨x,c,f,d⟩:=ae3 a;refine⟨n::x,by simp[c],λi b=>?_,by simp[d]⟩
    grind
  cases h
def aAx(xs:A2):strOfNums xs=⟨(xs.map λn=>UInt8.ofNat n.toNat).toArray⟩:=by simp[strOfNums]
def atv{s t:Nat}{es:List An}{y:Tag}{v:Value}{ys:By}(A:Rel w κ pv (.slice es y) v)(B:ace P s t=true)(C:zB es=some ys):∃u,(convert s t v).run P w=.ok u w/\Rel w κ pv (.str ys) u:=by
 obtain⟨e,d,f,g⟩:∃e,P.underlying s=some (.slice e)/\P.underlying e=some (.int .u8)/\P.underlying t=some .string:=by
  unfold ace at B
  grind
 obtain⟨x,q,D,rfl⟩:=ae3 C;cases A with|@slice _ _ a c b o E u J F K G L H I _=>
  have l:(x.map λn=>UInt8.ofNat n.toNat).length<=9223372036854775807:=by simp;omega
  refine⟨.string ⟨(x.map λn=>UInt8.ofNat n.toNat).toArray⟩,?_,.str l⟩;by_cases h:es=[];·subst h;have j:x=[]:=qAD.1 (by simpa using q);subst j;cases a with|none=>rw[run_convert_bytes_nil w s e d f _ _ t g];rfl|some p=>rw[run_convert_bytes_string w s t e _ _ _ d f g,run_bytesToString w p _ c [] (by simp[loadCells,loadCellsFrom])];rfl
  rw[F h];have z:E=1:=by
   have M:0<es.length:=qCn.2 h
   grind
  subst z;rw[run_convert_bytes_arg w s e d f b o es.length c x q (λi k=>by have r:=H i 0 k Cl;have m:=I i 0 k Cl;rw[D i k]at m;simp at m;simp at r;rw[r];have:=m.uG.1;rw[this];simp[List.getD]) t g,aAx]
def azY{t sz:Nat}{ρ:Operand->AV}{ev:Operand->Value}{parts:Array (Nat×Operand)}{z cs:An}(d:∀x,Rel w κ pv (ρ x) (ev x))(s:ahf P t=some sz)(a:lI P t=some z)
  (h:lH (λi=>some (i*sz,sz)) z (parts.toList.map λp=>(p.1,ρ p.2))=some cs):∃y,(Instr.build t (parts.map λp=>(p.1,ev p.2))).run P w=.ok y w/\Rel w κ pv (.agg cs) y:=by
 unfold ahf at s;split at s
 ·rename_i n e u;unfold lI at a;cases g:P.info? t with
  |none=>rw[g]at a;cases a
  |some i=>
   rw[g]at a;simp only[qAb]at a;cases v:i.zero with
   |none=>rw[v]at a;cases a
   |some c=>
    rw[v]at a;simp at a;subst a;have k:=Yf (w:=w) (κ:=κ) (pv:=pv) (place:=λi=>some (i*sz,sz)) (parts.toList.map λp=>(p.1,ρ p.2)) (parts.toList.map λp=>(p.1,ev p.2)) (c.cells.toList.map ofConst) cs c.cells cn
     (λj b=>by
      simp at b;simp only[List.getD,qAE,qAc b,qAx,qAw];exact⟨trivial,d _⟩) cn
     (λj b=>by
      have:(c.cells.toList.map ofConst).getD j .unk=ofConst (c.cells.getD j undef):=by
       simp_all
      rw[this];exact xB _) h
    let⟨f,q,l,m⟩:=k;refine⟨.agg f,?_,?_⟩
    ·have o:(parts.map λp=>(p.1,ev p.2)).toList=parts.toList.map λp=>(p.1,ev p.2):=by simp
     simp only[Instr.build,zeroValue,typeInfo,Sem.run_bind,Result.andThen_ok,run_underlying u,pJ s]
     simp_all
    have o:f=f.toList.toArray:=by simp
    refine .agg (by simpa using l) λj b=>?_;have:=m j b;simpa[qAq,List.getD]using this
 cases s
def axL{o:Oper}{ρ:Operand->AV}{ev:Operand->Value}{v:AV}(d:∀x,Rel w κ pv (ρ x) (ev x))(h:aC P o.op ρ=some v):
  ∃u,(execOp ev o).run P w=.ok (.value u) w/\Rel w κ pv v u:=by
 let⟨dst,op,ty,pos,after,guard⟩:=o;cases op with
 |move x=>cases h;exact⟨_,by simp[execOp],d x⟩
 |assign x=>cases h;exact⟨_,by simp[execOp],d x⟩
 |pick c x y=>
  simp only[aC]at h;have g:=d c;split at h
  ·rename_i t q;cases h;rw[q]at g;have:=g.Ra;cases t
   ·exact⟨ev y,by simp[execOp,this,asBool],d y⟩
   exact⟨ev x,by simp[execOp,this,asBool],d x⟩
  cases h
 |nilCheck x=>
  simp only[aC]at h;have g:=d x;split at h
  ·rename_i l o q;cases h;rw[q]at g;let⟨b,e,_⟩:=g.sD;exact⟨ev x,by simp[execOp,e],g⟩
  ·rename_i G q;cases h;rw[q]at g;let⟨b,O,y,e,_⟩:=g.aqu;exact⟨ev x,by simp[execOp,e],g⟩
  ·rename_i f G q;cases h;rw[q]at g;let⟨vs,e,_⟩:=g.LD;exact⟨ev x,by simp[execOp,e],g⟩
  ·rename_i G r q;cases h;rw[q]at g;cases A:ev x with
   |pointer p=>
    rw[A]at g;cases g with
    |@flcons _ _ b O u y C B Y h4 h5=>
     refine⟨.pointer (some ⟨b,O,none⟩),by simp[execOp,A],?_⟩;refine .eptr (λj=>if j<G.length then u j else y) (λj N=>C j (by simp at N;omega)) (λj N=>?_) (λj N=>?_)
     ·by_cases I:j<G.length
      ·simp only[I,if_true];exact B j I
      have:j=G.length:=by simp at N;omega
      subst this;simp only[qDb,if_false];exact Y
     by_cases I:j<G.length
     ·simp only[I,if_true];have:(G++[AV.flist r]).getD j .unk=G.getD j .unk:=by simp[List.getD,qAg I]
      rw[this];exact h4 j I
     have:j=G.length:=by simp at N;omega
     subst this;simp only[qDb,if_false];have:(G++[AV.flist r]).getD G.length .unk=.flist r:=by simp[List.getD]
     rw[this];exact h5
   |_=>rw[A]at g;cases g
  cases h
 |binOp op t x y ty2=>
  simp only[aC]at h;let⟨u,C,B,Y⟩:=aw5 (x:=x) (y:=y) (d x) (d y) h;exact⟨u,by simp[execOp,C,B],Y⟩
 |unOp op t x=>
  simp only[aC]at h;have g:=d x;split at h
  ·rename_i b q;cases h;rw[q]at g;exact⟨.bool !b,by simp[execOp,g.Ra,Op.unary],.bool _⟩
  ·rename_i k n q;cases h;rw[q]at g;exact⟨_,by simp[execOp,g.uG.1,Op.unary,Op.intArith];rfl,by have:=wf_wrap k (0 - n);simpa using Rel.int this⟩
  cases h
 |fieldAddr s x f=>
  let⟨y,C,B⟩:=ajp (P:=P) h (d x);exact⟨y,by simp[execOp,C],B⟩
 |field s x f=>
  let⟨y,C,B⟩:=at7 (P:=P) h (d x);exact⟨y,by simp[execOp,C],B⟩
 |indexAddr t x i=>
  let⟨y,C,B⟩:=akk (d x) (d i) h;exact⟨y,by simp[execOp,C],B⟩
 |index t x i=>
  let⟨y,C,B⟩:=aut (P:=P) h (d x) (d i);exact⟨y,by simp[execOp,C],B⟩
 |extract x i=>
  simp only[aC]at h;have g:=d x;split at h
  ·rename_i vs q;split at h
   ·rename_i Z;cases h;rw[q]at g;let⟨us,e,hl,hr⟩:=g.alB;obtain⟨y,H⟩:∃y,us[i]? =some y:=⟨_,qAc (show i<us.length by omega)⟩;have e2:=hr i Z;have e3:us.getD i undef=y:=by rw[List.getD,H];rfl
    rw[e3]at e2;exact⟨y,by simp[execOp,e,Instr.extract,H],e2⟩
   cases h
  cases h
 |slice t x lo Z mx=>
  cases mx with
  |some m=>cases h
  |none=>
   simp only[aC]at h;have g:=d x;split at h
   ·rename_i s q;rw[q]at g;let⟨e,hl⟩:=g.BK;split at h
    ·rename_i F;split at h
     ·rename_i Q hh;split at h
      ·rename_i l R;cases h;let⟨b1,b2,b3⟩:=JG (P:=P) (w:=w) (κ:=κ) (pv:=pv) (isS:=false) (acd d lo) (acd d Z) (qAd _) hh R;refine⟨.string ⟨((s.drop l).take (Q - l)).toArray⟩,?_,.str Cp⟩;have e2:(ByteArray.mk s.toArray).extract l Q=⟨((s.drop l).take (Q - l)).toArray⟩:=by rw[Lib.extract_eq]
       simp only[execOp,Instr.sliceAt,Instr.slice,e,Sem.run_bind,run_underlying (adt F),Result.andThen_ok,size_mk,qBS];simp[b1,e2]
      cases h
     cases h
    cases h
   ·rename_i es tag q;rw[q]at g;split at h
    ·rename_i sz J;split at h
     ·rename_i Q hh;split at h
      ·rename_i l R;split at h
       ·rename_i S;cases h;let⟨a,L,e,hcap,_⟩:=g.mY;rw[e]at g;let⟨b1,b2,b3⟩:=JG (P:=P) (w:=w) (κ:=κ) (pv:=pv) (isS:=true) (acd d lo) (acd d Z) hcap hh R;let⟨el,T,U⟩:=MX J;refine⟨_,?_,atE g J b2 b3 S⟩;simp only[execOp,Instr.sliceAt,Instr.slice,e,Sem.run_bind,run_underlying T,Result.andThen_ok,qBS];simp[b1,pJ U]
       cases h
      cases h
     cases h
    cases h
   ·rename_i l z n q;rw[q]at g;split at h
    ·rename_i sz J;split at h
     ·rename_i Q hh;cases h;cases A:ev x with
      |slice a len L=>
       rw[A]at g;cases g with
       |psl g1 g2 g3=>
        let⟨b1,b2,b3⟩:=JG (P:=P) (w:=w) (κ:=κ) (pv:=pv) (isS:=true) (alo:=none) (lo:=none) trivial (acd d Z) g1 hh (show eX none 0 Q=some 0 from rfl);let⟨el,T,U⟩:=MX J;refine⟨.slice a Q L,?_,.psl Cl Cl g3⟩;simp only[execOp,Instr.sliceAt,Instr.slice,A,Sem.run_bind,run_underlying T,Result.andThen_ok,qBS];simp[b1,pJ U,Addr.add]
      |_=>rw[A]at g;cases g
     cases h
    cases h
   cases h
 |build t parts=>
  simp only[aC]at h;split at h
  ·rename_i F;split at h
   ·rename_i z hz;cases V:lH (FX P t) z (parts.toList.map λp=>(p.1,ρ p.2))with
    |none=>rw[V]at h;cases h
    |some G=>
     rw[V]at h;cases h;let⟨y,C,B⟩:=atT (ev:=ev) d F hz V;exact⟨y,by simp[execOp,C],B⟩
   cases h
  split at h
  ·rename_i sz z J hz;cases V:lH (λi=>some (i*sz,sz)) z (parts.toList.map λp=>(p.1,ρ p.2))with
   |none=>rw[V]at h;cases h
   |some G=>
    rw[V]at h;cases h;let⟨y,C,B⟩:=azY (ev:=ev) d J hz V;exact⟨y,by simp[execOp,C],B⟩
  cases h
 |makeFunc fn first K=>
  cases fn with
  |func f=>
   simp only[aC]at h;split at h
   ·rename_i hz;cases h;have e:first=#[]:=Array.eq_empty_of_size_eq_zero hz
    subst e;refine⟨.func (.func f) #[] (K.toList.map ev).toArray,by simp[execOp,Instr.makeFunc];rw[<-Array.toList_map,qBl],.func cn λj N=>?_⟩;simp only[qAi]at N;simp only[List.getD,qAE,qAc N,qAx,qAw];exact d _
   cases h
  |_=>cases h
 |load t x=>
  simp only[aC]at h;have g:=d x;split at h
  ·rename_i G q;rw[q]at g;let⟨b,O,y,e,C,B,Y⟩:=g.aqu;let⟨z,h4,h5⟩:=Jm y B Y h;exact⟨z,by simp[execOp,Instr.loadAt,e,Instr.sureAddr,h4],h5⟩
  cases h
 |convert s t x=>
  simp only[aC]at h;have g:=d x;split at h
  ·rename_i k' n k q X;cases h;rw[q]at g;let⟨k2,hu1,hu2⟩:=ayh X;exact⟨.int k (k.wrap n),by simp[execOp,convert,g.uG.1,run_underlying hu1,run_underlying hu2,Conv.intToInt],.int (wf_wrap _ _)⟩
  ·rename_i es tg q X;rw[q]at g;split at h
   ·rename_i hb;cases H:zB es with
    |none=>rw[H]at h;cases h
    |some ys=>
     rw[H]at h;cases h;let⟨u,C,B⟩:=atv (P:=P) g hb H;exact⟨u,by simp[execOp,C],B⟩
   cases h
  cases h
 |call c=>
  let⟨M,D,E⟩:=c;cases M with
  |builtin b=>
   cases b<;>try cases h
   case len=>
    simp only[aC]at h;split at h
    ·rename_i x t ha q;have ea:D=#[x]:=by rw[<-qBl (xs:=D),ha]
     have et:E=#[t]:=by rw[<-qBl (xs:=E),q]
     subst ea et;have g:=d x;split at h
     ·rename_i s hs;rw[hs]at g;split at h
      ·rename_i F;cases h;let⟨e,hl⟩:=g.BK;refine⟨.int .i64 s.length,?_,.int ?_⟩
       ·simp[execOp,resolve,invoke,builtin,Builtin.len_,run_underlying (adt F),e,size_mk,goInt]
       simp only[sj,IntKind.min,IntKind.max,IntKind.signed,IntKind.bits];simp;omega
      cases h
     ·rename_i es tag hs;rw[hs]at g;split at h
      ·rename_i F;cases h;let⟨a,L,e,_,hl⟩:=g.mY;let⟨n,hn⟩:=qCr.1 F;let⟨el,T,_⟩:=MX hn;refine⟨.int .i64 es.length,?_,.int ?_⟩
       ·simp[execOp,resolve,invoke,builtin,Builtin.len_,run_underlying T,e,goInt]
       simp only[sj,IntKind.min,IntKind.max,IntKind.signed,IntKind.bits];simp;omega
      cases h
     ·rename_i l z n hs;rw[hs]at g;split at h
      ·rename_i F;cases h;let⟨m,hn⟩:=qCr.1 F;let⟨el,T,_⟩:=MX hn;cases A:ev x with
       |slice a len L=>
        rw[A]at g;cases g with
        |psl g1 g2 g3=>
         refine⟨.int .i64 n,?_,.int ?_⟩
         ·simp[execOp,resolve,invoke,builtin,Builtin.len_,run_underlying T,A,goInt]
         simp only[sj,IntKind.min,IntKind.max,IntKind.signed,IntKind.bits];simp;omega
       |_=>rw[A]at g;cases g
      cases h
     cases h
    cases h
   case max=>
    simp only[aC]at h;split at h
    ·rename_i x y ha;have ea:D=#[x,y]:=by rw[<-qBl (xs:=D),ha]
     subst ea;split at h
     ·rename_i k a k' b C B;split at h
      ·rename_i X;cases h;subst X;have W:=d x;have H:=d y;rw[C]at W;rw[B]at H;refine⟨.int k (if b>a then b else a),by simp[execOp,resolve,invoke,builtin,Builtin.max_,Builtin.max2,W.uG.1,H.uG.1],?_⟩;split
       ·exact .int H.uG.2
       exact .int W.uG.2
      cases h
     cases h
    cases h
   case min=>
    simp only[aC]at h;split at h
    ·rename_i x y ha;have ea:D=#[x,y]:=by rw[<-qBl (xs:=D),ha]
     subst ea;split at h
     ·rename_i k a k' b C B;split at h
      ·rename_i X;cases h;subst X;have W:=d x;have H:=d y;rw[C]at W;rw[B]at H;refine⟨.int k (if b<a then b else a),by simp[execOp,resolve,invoke,builtin,Builtin.min_,Builtin.min2,W.uG.1,H.uG.1],?_⟩;split
       ·exact .int H.uG.2
       exact .int W.uG.2
      cases h
     cases h
    cases h
  |_=>cases h
 |_=>cases h
end
inductive Wr where
 |slot (n:Nat) (v:AV)
 |obj (l:Nat) (o:AObj)
abbrev B5:=List Wr
def ASt.wr1(s:ASt):Wr->ASt| .slot n v=>s.setSlot n v| .obj l o=>s.setObj l o
def ASt.wr(s:ASt)(l:B5):ASt:=l.foldl ASt.wr1 s
def aA(d:Option Tmp)(v:AV):B5:=match d with|some n=>[.slot n v]|none=>[]
def isScalar:AV->Bool| .unk=>false| .agg _=>false| .tup _=>false|_=>true
def dH(sz:Nat)(e:An):Bool:=e.length==sz&&e.all isScalar
def dG:AObj->Bool| .res=>true|_=>false
def chunks(sz:Nat):Nat->An->List An|0,_=>[]|n+1,c=>c.take sz::chunks sz n (c.drop sz)
def tN(es:List (By×AV))(k:By):Cd:=(es.find? λp=>p.1==k).map (·.2)
def I9(es:List (By×AV))(k:By)(v:AV):List (By×AV):=
 match es with|[]=>[(k,v)]|p::r=>if p.1==k then(k,v)::r else p::I9 r k v
def ED(f:Cd)(ok:Bool)(z:AV):AV:=
 match f,ok with|some v,true=>.tup [v,.bool true]|some v,false=>v|none,true=>.tup [z,.bool false]|none,false=>z
def shr:AV->AV| .slice e _=>.slice e .shared|v=>v
def uN:AV->AV| .agg c=>.agg (c.map shr)|v=>shr v
def apI:Value->AV| .agg c=>.agg (c.toList.map ofConst)|v=>ofConst v
def NP(P:Program)(t:TypeId):Cd:=(P.info? t).bind λi=>i.zero.map apI
def mX(P:Program)(t:TypeId):Option (TypeId×Nat×Nat):=
 match P.underlying t with|some (.slice e)=>(P.info? e).bind λi=>if(i.zero.map λz=>z.cells.size)=some i.size then some (e,i.size,i.bytes)else none|_=>none
def uK(P:Program)(t:TypeId):Option TypeId:=
 match P.underlying t with
 |some (.map k e)=>match P.underlying k with|some .string=>some e|_=>none
 |_=>none
def aP(P:Program)(k:Nat)(o:Oper)(ρ:Operand->AV)(σ:Nat->AObj):Option (A5×B5):=
 match aC P o.op ρ with
 |some v=>some ([],aA o.dst v)
 |none=>match o.op with
  | .load t x=>match ρ x with
   | .ptr l f=>match σ l with
    | .box q=>(kC P t (q.drop f)).map λv=>([l],aA o.dst v)
    | .arr z d=>if f=f/z*z/\f/z<d.length then(kC P t (d.getD (f/z) [])).map λv=>([l],aA o.dst v)else none
    |_=>none
   |_=>none
  | .store t x y=>match ρ x,eO (ρ y)with
   | .ptr l f,some h=>match σ l with
    | .box q=>if sizeT P t=some h.length/\f+h.length<=q.length/\h.all isScalar then some ([l],.obj l (.box (q.take f++h++q.drop (f+h.length)))::aA o.dst (.tup []))else none
    | .arr z d=>if sizeT P t=some h.length/\h.length=z/\f=f/z*z/\f/z<d.length/\h.all isScalar then some ([l],.obj l (.arr z (d.set (f/z) h))::aA o.dst (.tup []))
     else if sizeT P t=some h.length/\0<z/\f/z<d.length/\f%z+h.length<=z/\h.all isScalar then some ([l],.obj l (.arr z (d.set (f/z) ((d.getD (f/z) []).take (f%z)++h++(d.getD (f/z) []).drop (f%z+h.length))))::aA o.dst (.tup []))else none
    |_=>none
   |_,_=>none
  | .alloc t=>if dG (σ k)then(lI P t).map λz=>([k],.obj k (.box z)::aA o.dst (.ptr k 0))else none
  | .box _ x=>if dG (σ k)then(eO (ρ x)).map λq=>([k],.obj k (.box q)::aA o.dst (.ptr k 0))else none
  | .makeMap _ none=>if dG (σ k)then some ([k],.obj k (.mp [])::aA o.dst (.mapr k))else none
  | .buildSlice t j parts=>match mX P t with
   |some (e,a,_)=>match lI P e with
    |some z=>if dG (σ k)/\j*a<=16777216/\j<=16777216/\z.length=a then(lH (λi=>some (i*a,a)) ((List.replicate j z).flatten) (parts.toList.map λp=>(p.1,ρ p.2))).map λq=>([k],.obj k (.tip (j*a))::aA o.dst (.slice (chunks a j (q.map shr)) (.tip k a)))else none
    |none=>none
   |none=>none
  | .call {callee:=.builtin .append,args,argTypes}=>match args.toList,argTypes.toList with
   |[x,y],[t,u]=>match mX P t,isSliceT P u,ρ x,ρ y with
    |some (_,a,b),true,.slice d .nils,.slice g _=>
     if dG (σ k)/\d=[]/\g.length*b<=140737488355328/\g.length<=140737488355328/\(g.all (dH a)=true)then
      some ([k],.obj k (.tip (g.length*a))::aA o.dst (.slice g (.tip k a)))else none
    |some (_,a,b),true,(.slice d (.tip l z)),.slice g _=>match σ l with
     | .tip n=>if dG (σ k)/\n=d.length*a/\z=a/\(d.length+g.length)*b<=140737488355328/\d.length+g.length<=140737488355328/\(d.all (dH a)=true)/\(g.all (dH a)=true)then
       some ([l,k],.obj l .dead:: .obj k (.tip ((d++g).length*a))::aA o.dst (.slice (d++g) (.tip k a)))else none
     |_=>none
    |some (_,a,b),true,.psl l z n,.slice g _=>match σ l with
     | .arr w d=>if dG (σ k)/\z=a/\w=a/\n<=d.length/\(n+g.length)*b<=140737488355328/\n+g.length<=140737488355328/\(d.all (dH a)=true)/\(g.all (dH a)=true)then
       some ([l,k],.obj l .dead:: .obj k (.arr a (d.take n++g))::aA o.dst (.psl k a (d.take n++g).length))else none
     |_=>none
    |_,_,_,_=>none
   |_,_=>none
  | .makeSlice t x y=>match mX P t,ρ x,ρ y with
   |some (e,a,b),.int _ l,.int _ c=>match lI P e with
    |some z=>if dG (σ k)/\0<=l/\l<=c/\b*c<=281474976710656/\c<=140737488355328/\z.length=a then some ([k],.obj k (.arr a (List.replicate l.toNat z))::aA o.dst (.psl k a l.toNat))else none
    |none=>none
   |_,_,_=>none
  | .lookup t m r ok=>match uK P t,ρ m,ρ r with
   |some e,.mapr l,.str s=>match σ l,NP P e with
    | .mp d,some z=>some ([l],aA o.dst (ED (tN d s) ok z))
    |_,_=>none
   |_,_,_=>none
  | .mapUpdate t m r x=>match uK P t,ρ m,ρ r with
   |some _,.mapr l,.str s=>match σ l with
    | .mp d=>if d.length<140737488355328 then some ([l],.obj l (.mp (I9 d s (uN (ρ x))))::aA o.dst (.tup []))else none
    |_=>none
   |_,_,_=>none
  |_=>none
where
 isSliceT (P:Program) (t:TypeId):Bool:=match P.underlying t with|some (.slice _)=>true|_=>false
end Abs
end Go.Proofs.YtneeginmfjageaaGreat

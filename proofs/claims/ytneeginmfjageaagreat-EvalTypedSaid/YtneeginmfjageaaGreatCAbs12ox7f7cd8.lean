/-
  That operations on private memory (loads, stores, new variables, new maps) do what 'heapOp' says. Conditions: none; lemmas over any program and world.
-/
import Derived.Laws.MakeOwn
import Derived.Test.YtneeginmfjageaaGreatCAbs1ox2ce29b
set_option linter.all false
namespace Go.Proofs.YtneeginmfjageaaGreat
namespace Abs
section
open Go
def xX(P:Program)(o:Oper)s s':=
 ∀C e a w,Sim C e s a w->∀next Q,(∀b c d,Sim C b s' c d->next c d)->o.wp P a w next Q
theorem Sim.au{C}{κ}{s}{a}{w}(h:Sim C κ s a w) d {v}{u}(b:Rel w κ (aD C.ak κ s.heap) v u):Sim C κ (s.wr (au d v)) (a.put d u) w:=by
 cases d with|none=>exact h|some n=>exact h.put b
theorem nT{P o s s'}(h:∀C κ a w,Sim C κ s a w->∃u b c,(execOp a.eval o).run P w=.ok (.value u) c/\Sim C b s' (a.put o.dst u) c):xX P o s s':=by
 intro C κ a w d next Q n
 obtain⟨u,b,c,e,f⟩:=h C κ a w d;unfold Oper.wp;rw[e];exact n _ _ _ f
theorem Xd{P o s s'}(h:∀C κ a w,Sim C κ s a w->∃b c,(execOp a.eval o).run P w=.ok .skip c/\Sim C b s' (a.put o.dst undef) c):xX P o s s':=by
 intro C κ a w d next Q n
 obtain⟨b,c,e,f⟩:=h C κ a w d;unfold Oper.wp;rw[e];exact n _ _ _ f
theorem kC{w κ pv}:Rel w κ pv (.tup []) undef:=by have:=Rel.tup (w:=w) (κ:=κ) (pv:=pv) (cs:=[]) (vs:=[]) rfl (λj h=>by cases h);simpa[undef]using this
theorem apw{P o s v}(h:aB P o.op (bC s.tmps)=some v):xX P o s (s.wr (au o.dst v)):=
 nT λC c a w b=>by obtain⟨u,d,e⟩:=avz (o:=o) (λx=>b.ev x) h;exact⟨u,c,w,d,b.au o.dst e⟩
theorem azG{P o s t x l off cs v}(i:o.op=.load t x)(k:bC s.tmps x=.ptr l off)(m:obj? s.heap l=.box cs)(h:jB P t (cs.drop off)=some v):
  xX P o s (s.wr (au o.dst v)):=
 nT λC d a w f=>by
  have r:=f.ev x;rw[k]at r;obtain⟨b,e,n⟩:=r.qm;obtain⟨c,A,B,D,p,q⟩:=f.box n m;obtain⟨y,u,z⟩:=Hw (P:=P) (w:=w) (κ:=d) (pv:=aD C.ak d s.heap) (b:=b) (off:=off) (cs:=cs.drop off) (λj=>c.getD (off+j) undef)
   (λj g=>p _ (by simp at g;omega)) (λj g=>by rw[getD_drop];exact q _ (by simp at g;omega)) h
  exact⟨y,d,w,by simp[execOp,i,Instr.loadAt,e,Instr.sureAddr,u],f.au o.dst z⟩
theorem aiZ{P o s k b v}(e:bS (obj? s.heap k)=true)(n:b≠ .res)
  (h:∀C κ a w,Sim C κ s a w->∃u c,(execOp a.eval o).run P w=.ok (.value u) {w with heap:=w.heap.push c}/\
   pQ {w with heap:=w.heap.push c} (κ.set k (some w.heap.size)) (aD C.ak (κ.set k (some w.heap.size)) (s.heap.set k b)) w.heap.size b/\
   Rel {w with heap:=w.heap.push c} (κ.set k (some w.heap.size)) (aD C.ak (κ.set k (some w.heap.size)) (s.heap.set k b)) v u):
  xX P o s (s.wr (.obj k b::au o.dst v)):=
 nT λC κ a w d=>by
  obtain⟨u,c,f,g,j⟩:=h C κ a w d;have r:obj? s.heap k=.res:=by revert e;cases obj? s.heap k<;>simp[bS]
  have l:k<s.heap.length:=by apply qAp;intro m;rw[obj?,qAE (by omega)]at r;cases r
  have i:=d.new (d.resv k r) l c b n g;exact⟨u,_,_,f,i.au o.dst j⟩
theorem aiW{C κ s a w}(hs:Sim C κ s a w){k:Nat}{m:AObj}(r:obj? s.heap k=.res)(t:k<s.heap.length)(o:Obj){v:AV}{u:Value}(h:Rel w κ (aD C.ak κ s.heap) v u):
  Rel {w with heap:=w.heap.push o} (κ.set k (some w.heap.size)) (aD C.ak (κ.set k (some w.heap.size)) (s.heap.set k m)) v u:=by
 have f:k<κ.length:=by rw[hs.klen];exact t
 refine h.mono (Evo.push o) (λl b c=>?_) ?_;·rw[at?_set_other];exact c;intro e;subst e;rw[hs.resv _ r]at c;cases c
 rintro b n (c|⟨l,d,i⟩) j;·exact .inl c
 by_cases g:k=l;·subst g;rw[at?_set_same f]at d;cases d;omega
 rw[at?_set_other g]at d;rw[obj?_set_other g]at i;exact .inr ⟨l,d,i⟩
theorem xO{H k}(a:bS (obj? H k)=true):obj? H k=.res/\k<H.length:=by
 have h:obj? H k=.res:=by revert a;cases obj? H k<;>simp[bS]
 refine⟨h,?_⟩;apply qAp;intro n;rw[obj?,qAE (by omega)]at h;cases h
theorem tX{w:World}{o}:({w with heap:=w.heap.push o}).heap[w.heap.size]? =some o:=by simp
theorem aCv{P o s t x k cs}(d:o.op=.box t x)(c:bS (obj? s.heap k)=true)(e:dS (bC s.tmps x)=some cs):
  xX P o s (s.wr (.obj k (.box cs)::au o.dst (.ptr k 0))):=by refine aiZ c (by simp) λC m a w b=>?_;obtain⟨h,l⟩:=xO c;obtain⟨f,g⟩:=K8 (b.ev x) e;refine⟨.pointer (some ⟨w.heap.size,0,none⟩),.cells (a.eval x).cells t (0,0),by simp[execOp,d,Instr.box,newVar,newRow],⟨_,_,tX,f,λj i=>aiW b h l _ (g j i)⟩,.ptr ?_⟩;exact at?_set_same (by rw[b.klen];exact l)
theorem aiJ{P}{t}{z}(h:kr P t=some z):∃v:Value,(∀w:World,(zeroValue t).run P w=.ok v w)/\v.cells.size=z.length/\∀w κ pv j,j<z.length->Rel w κ pv (z.getD j .unk) (v.cells.getD j undef):=by
 unfold kr at h;cases a:P.info? t with|none=>rw[a]at h;cases h|some i=>
  rw[a]at h;simp only[qAa]at h;cases b:i.zero with|none=>rw[b]at h;cases h|some v=>
   rw[b]at h;simp at h;subst h;refine⟨v,λw=>by simp[zeroValue,typeInfo,a,b],by simp,λw κ pv j c=>?_⟩;simp at c;have:(v.cells.toList.map ofConst).getD j .unk=ofConst (v.cells.getD j undef):=by simp[c]
   rw[this];exact wz _
theorem azq{P o s t k z}(c:o.op=.alloc t)(b:bS (obj? s.heap k)=true)(d:kr P t=some z):
  xX P o s (s.wr (.obj k (.box z)::au o.dst (.ptr k 0))):=by refine aiZ b (by simp) λC m a w e=>?_;obtain⟨_,h⟩:=xO b;obtain⟨v,f,g,i⟩:=aiJ d;refine⟨.pointer (some ⟨w.heap.size,0,none⟩),.cells v.cells t (0,0),by simp[execOp,c,Instr.alloc,newVar,newRow,f],⟨_,_,tX,g,λj l=>i _ _ _ j l⟩,.ptr ?_⟩;exact at?_set_same (by rw[e.klen];exact h)
theorem asu{P o s t k}(c:o.op=.makeMap t none)(b:bS (obj? s.heap k)=true):
  xX P o s (s.wr (.obj k (.mp [])::au o.dst (.mapr k))):=by refine aiZ b (by simp) λC f a w d=>?_;obtain⟨_,h⟩:=xO b;refine⟨.map (some w.heap.size),.map #[] 0,by simp[execOp,c,Instr.makeMap],⟨#[],0,tX,by simp,⟨by simp,MapKept.stamped_empty 0,by simp⟩,λj e=>by cases e⟩,.mapr ?_⟩;exact at?_set_same (by rw[d.klen];exact h)
theorem Wy{P w κ pv b j v u y}(h:Rel w κ pv v u)(hs:isScalar v=true)(c:w.cell? ⟨b,j,none⟩=some y)(f:w.frozen? ⟨b,j,none⟩=false):
  (store ⟨b,j,none⟩ u).run P w=.ok () (w.setCell ⟨b,j,none⟩ u):=by cases h<;>simp[isScalar]at hs<;>simp[store,Sem.run,c,f]
theorem Sim.stores{P}{C}{κ}{a}{l b off}(p:at? κ l=some b):∀vs d i s w cs,Sim C κ s a w->obj? s.heap l=.box cs->
  off+i+vs.length<=cs.length->d.length=vs.length->(∀j,j<vs.length->Rel w κ (aD C.ak κ s.heap) (vs.getD j .unk) (d.getD j undef))->vs.all isScalar=true->
  ∃t,(storeCells ⟨b,off,none⟩ d i).run P w=.ok () t/\Sim C κ (s.setObj l (.box (cs.take (off+i)++vs++cs.drop (off+i+vs.length)))) a t:=by
 intro vs
 induction vs with
 |nil=>
  intro d i s w cs m g q f _ _;cases d with
  |nil=>
   refine⟨w,by simp[storeCells],?_⟩;have e:s.setObj l (.box (cs.take (off+i)++[]++cs.drop (off+i+([]:List AV).length)))=s:=by
    simp only[qAt,qAC,qAP,qDF];obtain⟨R,H⟩:=s;simp only[ASt.setObj,ASt.mk.injEq,true_and];have h:l<H.length:=by have:=lt_of_at? p;have:=m.klen;simp only at this;omega
    apply qBR;intro n;by_cases E:l=n;·subst E;simp only[qCC h];simp only[obj?,qAc h,qAv]at g;rw[qAc h,g]
    rw[qCa E]
   rw[e];exact m
  |cons=>simp at f
 |cons v vs K=>
  intro d i s w cs m g q f F k;cases d with
  |nil=>simp at f|cons u d=>
   simp only[qAo]at q f;simp only[qBK,qAb]at k;have y:=F 0 (by simp);simp only[List.getD,qAF,qAv]at y;obtain⟨c,S,L,T,M,U⟩:=m.box p g;have h:l<s.heap.length:=by rw[<-m.klen];exact lt_of_at? p
   have z:=m.store p g (j:=off+i) (by omega) y;have r:(Go.store ⟨b,off+i,none⟩ u).run P w=.ok () (w.setCell ⟨b,off+i,none⟩ u):=Wy y k.1 (M _ (by omega)) (by simp[World.frozen?,L]);have A:∀x o,aD C.ak κ (s.setObj l (.box (cs.set (off+i) v))).heap x o->aD C.ak κ s.heap x o:=by
    rintro x o (B|⟨G,I,D⟩);·exact .inl B
    by_cases e:l=G;·subst e;exact .inr ⟨l,I,by rw[g];trivial⟩
    simp only[ASt.setObj]at D;rw[obj?_set_other e]at D;exact .inr ⟨G,I,D⟩
   obtain⟨t,N,J⟩:=K d (i+1) _ _ (cs.set (off+i) v) z (by simp only[ASt.setObj];exact obj?_set_same h) (by simp;omega) (by omega)
    (λj O=>by have:=F (j+1) (by simpa using O);simp only[List.getD,qBs]at this;exact this.mono (Evo.setCell (.inr ⟨l,p,by rw[g];trivial⟩)) (dw.refl _) (λx o B _=>A x o B)) k.2
   refine⟨t,by simp[storeCells,A9,r,N],?_⟩;have e:(s.setObj l (.box (cs.set (off+i) v))).setObj l (.box ((cs.set (off+i) v).take (off+(i+1))++vs++(cs.set (off+i) v).drop (off+(i+1)+vs.length)))=
     s.setObj l (.box (cs.take (off+i)++(v::vs)++cs.drop (off+i+(v::vs).length))):=by
    simp only[ASt.setObj,qDT];congr 2;congr 1;rw[show off+(i+1)=(off+i)+1 from by omega,List.drop_set,if_pos (by omega)];have Q:(cs.set (off+i) v).take (off+i+1)=cs.take (off+i)++[v]:=by rw[qCd (by simp;omega),qDR,qBP (by simp;omega)];simp
    rw[Q];simp only[qAm,qCK,qAo];congr 3;omega
   rw[e]at J;exact J
theorem ayR{P o s t x y l off cs vs}(g:o.op=.store t x y)(i:bC s.tmps x=.ptr l off)(k:dS (bC s.tmps y)=some vs)(m:obj? s.heap l=.box cs)
  (n:sizeT P t=some vs.length) (p:off+vs.length<=cs.length) (h:vs.all isScalar=true):
  xX P o s (s.wr (.obj l (.box (cs.take off++vs++cs.drop (off+vs.length)))::au o.dst (.tup []))):=
 Xd λC q a w c=>by
  have r:=c.ev x;rw[i]at r;obtain⟨b,e,u⟩:=r.qm;obtain⟨d,v⟩:=K8 (c.ev y) k;obtain⟨z,A,f⟩:=Sim.stores (P:=P) (off:=off) u vs (a.eval y).cells.toList 0 s w cs c m (by omega) (by simpa using d)
   (λj B=>by have:=v j B;simpa[qAq,List.getD]using this) h
  refine⟨q,z,?_,?_⟩;·simp[execOp,g,Instr.storeAt,e,Instr.sureAddr,storeVar,nU n,d,A]
  simp only[qAP]at f;exact f.au o.dst kC
theorem Sim.kill{C}{κ}{s}{a}{w}(h:Sim C κ s a w) l:Sim C κ (s.setObj l .dead) a w:=by
 have d:∀l',live (obj? (s.heap.set l .dead) l')->l≠l'/\obj? (s.heap.set l .dead) l'=obj? s.heap l':=λl' c=>by
  by_cases e:l=l'
  ·subst e;by_cases t:l<s.heap.length
   ·rw[obj?_set_same t]at c;exact c.elim
   rw[obj?,qAE (by simp;omega)]at c;exact c.elim
  exact⟨e,obj?_set_other e⟩
 refine h.step (H':=s.heap.set l .dead) (Evo.refl _ _) (dw.refl _) (by simp[h.klen]) ?_ (λl' b g f=>.inl ⟨g,(d l' f).2,rfl⟩)
  (λl1 i b g f j k=>h.apart l1 i b g f (by rw[<-(d l1 j).2];exact j) (by rw[<-(d i k).2];exact k)) h.bound ?_ (λ_ _=>rfl) rfl rfl rfl
 ·rintro b o (m|⟨l',g,f⟩) _
  ·exact .inl m
  have c:live (obj? (s.heap.set l .dead) l'):=by revert f;cases obj? (s.heap.set l .dead) l'<;>simp[uf,live]
  rw[(d l' c).2]at f;exact .inr ⟨l',g,f⟩
 intro l' c;by_cases e:l=l'
 ·subst e;by_cases t:l<s.heap.length
  ·rw[obj?_set_same t]at c;cases c
  rw[obj?,qAE (by simp;omega)]at c;cases c
 rw[obj?_set_other e]at c;exact h.resv l' c
section
variable {P:Program}{w:World}{κ:aM}{pv:bJ}
theorem oD{es}{tag}{u}{sz}(h:Rel w κ pv (.slice es tag) u)(z:∀i,i<es.length->(es.getD i []).length=sz):
  ∃r,(Builtin.firstCells sz es.length u).run P w=.ok r w/\r.size=es.length*sz/\∀i j,i<es.length->j<sz->Rel w κ pv ((es.getD i []).getD j .unk) (r.getD (i*sz+j) undef):=by
 cases h with|@slice _ _ a t b o s f v x D y E A F G=>
  by_cases n:es=[];·subst n;cases a<;>simp[Builtin.firstCells,loadCells,loadCellsFrom]
  have B:=x n;subst B;have p:0<es.length:=qCt.2 n;have g:s=sz:=by rw[<-v 0 p];exact z 0 p
  subst g;have c:=run_loadCellsFrom (P:=P) (w:=w) (b:=b) (off:=o) (λm=>f (m/s) (m%s)) (es.length*s) 0 #[] (λm l=>by have q:0<s:=qCi (λe=>by subst e;simp at l);have k:m/s<es.length:=(qCL q).2 l;have d:m%s<s:=qDs _ q;have:=A (m/s) (m%s) k d;rw[qBB,qCR]at this;simpa using this)
  refine⟨((List.range (es.length*s)).map λm=>f (m/s) (m%s)).toArray,?_,by simp,λi j k d=>?_⟩;·simpa[Builtin.firstCells,loadCells]using c
  have C:i*s+j<es.length*s:=by
   have:(i+1)*s<=es.length*s:=qAQ _ k
   grind
  have H:(i*s+j)/s=i:=by rw[qBB,qDA (by omega),qDu d];omega
  have I:(i*s+j)%s=j:=by rw[qBB,qCS,qCe d]
  simp_all
theorem mZ{t e sz by_:Nat}(h:lV P t=some (e,sz,by_)):P.underlying t=some (.slice e)/\∃i z,P.info? e=some i/\i.size=sz/\i.bytes=by_/\i.zero=some z/\z.cells.size=sz:=by
 unfold lV at h;split at h;·rename_i b u;cases a:P.info? b with|none=>rw[a]at h;cases h|some i=>
   rw[a]at h;simp only[qAa]at h;split at h;·simp_all
   cases h
 cases h
theorem nextslicecap_le need cap (h:cap<need):Builtin.nextslicecap need cap<=2*need:=by
 have g:∀r c,c<=2*need->256<=c->Builtin.growBy need r c<=2*need:=by
  intro r
  induction r with|zero=>intro c a _;simpa[Builtin.growBy]using a|succ r i=>
   simp only[Builtin.growBy]
   grind
 unfold Builtin.nextslicecap
 grind
theorem uN{t:Nat}(h:aJ.isSliceT P t=true):∃e,P.underlying t=some (.slice e):=by unfold aJ.isSliceT at h;split at h<;>first|exact⟨_,by assumption⟩|cases h
theorem run_append_grow{t d e sz by_ ty:Nat}{a:Option Addr}{len cap n:Nat}{u2:Value}{old new:Array Value}{z:Value}(j:lV P t=some (e,sz,by_))(h2:aJ.isSliceT P d=true)
  (k:Builtin.lenOf u2=pure n) (h:cap<len+n) (A:(len+n)*by_<=140737488355328) (l:len+n<=140737488355328) (m:(zeroValue e).run P w.drew=.ok z w.drew)
  (o:(Builtin.firstCells sz len (.slice a len cap)).run P w.drew=.ok old w.drew)
  (b:(Builtin.firstCells sz n u2).run P w.drew=.ok new w.drew):
  ∃c,len+n<=c/\(Builtin.append_ #[t,d] ty #[.slice a len cap,u2]).run P w=
   .ok (.slice (some ⟨w.heap.size,0,none⟩) (len+n) c) {w.drew with heap:=w.heap.push (.cells (old++new++Builtin.zeroCells z.cells (c - (len+n))) e (0,0))}:=by
 obtain⟨q,i,B,g,rfl,rfl,r,v⟩:=mZ j;obtain⟨C,u⟩:=uN h2;have p:Builtin.nextslicecap (len+n) cap*i.bytes<=281474976710656:=by
  have:=qAQ i.bytes (nextslicecap_le (len+n) cap h);have e:2*(len+n)*i.bytes=2*((len+n)*i.bytes):=by rw[Nat.mul_assoc]
  omega
 refine⟨(len+n)+(w.tape w.drawn (.appendCap (len+n) cap e))%(2^63 - (len+n)),by omega,?_⟩;have s:∀w:World,(sizeOf e).run P w=.ok i.size w:=λw=>by simp[sizeOf,typeInfo,g]
 have f:∀w:World,(typeInfo e).run P w=.ok i w:=λw=>by simp[typeInfo,g]
 have x:¬((len+n:Nat):Int)>IntKind.i64.max:=by simp[IntKind.max,IntKind.signed,IntKind.bits];omega
 simp only[Builtin.append_];simp[run_underlying q,run_underlying u,s,f,k,h,Question.forced,Question.cut];rw[if_neg (by omega)];rw[if_neg (by exact λy=>x y.1)];rw[if_neg (by omega)];simp[o,b,m,newRow];rfl
end
end
section
open Go
theorem gM{sz}{es:List (List AV)}(h:es.all (bX sz)=true) i (hi:i<es.length):(es.getD i []).length=sz/\(es.getD i []).all isScalar=true:=by
 have:=qAJ.1 h es[i] (qAN hi);simp only[bX]at this
 grind
theorem sO{i j n sz:Nat}(hi:i<n)(h:j<sz):i*sz+j<n*sz:=by
 have:(i+1)*sz<=n*sz:=qAQ _ hi
 grind
theorem aqU{C κ s a w}(hs:Sim C κ s a w){k}(r:obj? s.heap k=.res)(t:k<s.heap.length){es}{c:Array Value}{e:TypeId}{cap sz:Nat}
  (n:∀i,i<es.length->(es.getD i []).length=sz) (h:es.length<=cap) (q:es.length<=140737488355328) (o:cap*sz<=c.size)
  (u:∀i j,i<es.length->j<sz->Rel w κ (aD C.ak κ s.heap) ((es.getD i []).getD j .unk) (c.getD (i*sz+j) undef)):
  Rel {w with heap:=w.heap.push (.cells c e (0,0))} (κ.set k (some w.heap.size)) (aD C.ak (κ.set k (some w.heap.size)) (s.heap.set k (.tip (es.length*sz)))) (.slice es (.tip k sz)) (.slice (some ⟨w.heap.size,0,none⟩) es.length cap):=by
 have g:k<κ.length:=by rw[hs.klen];exact t
 refine .slice w.heap.size 0 sz (λi j=>c.getD (i*sz+j) undef) n (λ_=>rfl) h (by omega) ?_ ?_ ?_ ⟨rfl,.inr ⟨w.heap.size,c,e,at?_set_same g,rfl,tX,o⟩⟩
 ·rintro i j b d (v|⟨l,f,m⟩)
  ·have:=hs.oldlt _ (hs.pvold _ _ v);have:=hs.size;omega
  by_cases p:k=l;·subst p;rw[obj?_set_same t]at m;simp only[uf]at m;have:=sO b d;omega
  rw[at?_set_other p]at f;have:=hs.bound _ _ f;omega
 ·intro i j b d;have f:=sO b d;have m:i*sz+j<c.size:=qAD f (qAu (qAQ _ h) o)
  simp_all
 exact λi j b d=>aiW hs r t _ (u i j b d)
theorem Zq{P:Program}{C κ s a w}(hs:Sim C κ s a w){k:Nat}(n:bS (obj? s.heap k)=true){es:List (List AV)}{c:Array Value}{e:TypeId}{cap sz:Nat}
  (l:∀i,i<es.length->(es.getD i []).length=sz) (h:es.length<=cap) (b:es.length<=140737488355328) (g:cap*sz<=c.size)
  (o:∀i j,i<es.length->j<sz->Rel w κ (aD C.ak κ s.heap) ((es.getD i []).getD j .unk) (c.getD (i*sz+j) undef)) (d:Option Tmp):
  ∃f,Sim C f (s.wr (.obj k (.tip (es.length*sz))::au d (.slice es (.tip k sz)))) (a.put d (.slice (some ⟨w.heap.size,0,none⟩) es.length cap)) {w with heap:=w.heap.push (.cells c e (0,0))}:=by obtain⟨r,t⟩:=xO n;have m:=hs.new (hs.resv k r) t (.cells c e (0,0)) (.tip (es.length*sz)) (by simp) ⟨c,e,tX,qAu (qAQ _ h) g⟩;exact⟨_,m.au d (aqU hs r t l h b g o)⟩
theorem size_zeroCells z n:(Builtin.zeroCells z n).size=n*z.size:=by simp[Builtin.zeroCells]
theorem arT{P C κ}{s:ASt}{a:Act}{w:World}(hs:Sim C κ s a w){k:Nat}(Y:bS (obj? s.heap k)=true){t Q e sz by_ ty:Nat}{es ys:List (List AV)}{tag y:Tag}{u u2:Value}
  (R:Rel w κ (aD C.ak κ s.heap) (.slice es tag) u) (A:Rel w κ (aD C.ak κ s.heap) (.slice ys y) u2) (S:lV P t=some (e,sz,by_)) (h2:aJ.isSliceT P Q=true)
  (Z:(es.length+ys.length)*by_<=140737488355328) (B:es.length+ys.length<=140737488355328) (T:es.all (bX sz)=true) (U:ys.all (bX sz)=true)
  (r:∀I n cap,u=.slice I n cap->cap<es.length+ys.length) (d:Option Tmp):
  ∃v p V,(Builtin.append_ #[t,Q] ty #[u,u2]).run P w=.ok v V/\Sim C p (s.wr (.obj k (.tip ((es++ys).length*sz))::au d (.slice (es++ys) (.tip k sz)))) (a.put d v) V:=by
 obtain⟨I,cap,rfl,W,_⟩:=R.lu;obtain⟨ad2,X,D,_,_⟩:=A.lu;have K:Sim C κ s a w.drew:=hs.sameHeap rfl rfl rfl rfl;have E:Evo (aD C.ak κ s.heap) w w.drew:=Evo.of_heap rfl;have L:=R.mono E (dw.refl _) (λ_ _ h _=>h);have F:=A.mono E (dw.refl _) (λ_ _ h _=>h);obtain⟨o,o1,o2,o3⟩:=oD (P:=P) L (λi g=>(gM T i g).1);obtain⟨b,n1,n2,n3⟩:=oD (P:=P) F (λi g=>(gM U i g).1);obtain⟨_,i,z,g,hsz,hby,hz,M⟩:=mZ S;have N:=r I es.length cap rfl;obtain⟨x,hnc,G⟩:=run_append_grow (P:=P) (w:=w) (ty:=ty) (a:=I) (len:=es.length) (cap:=cap) (n:=ys.length) (u2:=u2) (old:=o) (new:=b) (z:=z) S h2 (by subst D;rfl) N Z B
  (by simp[zeroValue,typeInfo,g,hz]) o1 n1
 have f:(es++ys).length=es.length+ys.length:=by simp
 have q:(o++b++Builtin.zeroCells z.cells (x - (es.length+ys.length))).size=x*sz:=by
  simp only[qCm,o2,n2,size_zeroCells,M];rw[<-qAV,<-qAV]
  grind
 obtain⟨p,m⟩:=Zq (P:=P) K Y (es:=es++ys) (c:=o++b++Builtin.zeroCells z.cells (x - (es.length+ys.length))) (e:=e) (cap:=x) (sz:=sz)
  (λi g=>by
   rw[f]at g;by_cases l:i<es.length
   ·have:(es++ys).getD i []=es.getD i []:=by simp[List.getD,qAi l]
    rw[this];exact(gM T i l).1
   have:(es++ys).getD i []=ys.getD (i - es.length) []:=by simp[List.getD,qAk (qBb l)]
   rw[this];exact(gM U _ (by omega)).1)
  (by omega) (by omega) (qBk q.symm)
  (λi j g J=>by
   rw[f]at g;by_cases l:i<es.length
   ·have O:(es++ys).getD i []=es.getD i []:=by simp[List.getD,qAi l]
    have D:(o++b++Builtin.zeroCells z.cells (x - (es.length+ys.length))).getD (i*sz+j) undef=o.getD (i*sz+j) undef:=by have:=sO l J;simp only[qAq];rw[Array.append_assoc,qBL (by omega)]
    rw[O,D];exact o3 i j l J
   have O:(es++ys).getD i []=ys.getD (i - es.length) []:=by simp[List.getD,qAk (qBb l)]
   have H:i - es.length<ys.length:=by omega
   have D:(o++b++Builtin.zeroCells z.cells (x - (es.length+ys.length))).getD (i*sz+j) undef=b.getD ((i - es.length)*sz+j) undef:=by
    have h4:=sO H J;have h5:i*sz=es.length*sz+(i - es.length)*sz:=by rw[<-qAV];congr 1;omega
    simp only[qAq];rw[qBL (by rw[qCm];omega),qBH (by omega)];congr 2;omega
   rw[O,D];exact n3 _ j H J) d
 refine⟨_,p,_,G,?_⟩;rw[f]at m|-;exact m
theorem ajz{P}{o}{s}{args}{argTypes:Array TypeId}{x y:Operand}{t M k e sz by_:Nat}{ys:List (List AV)}{tag:Tag}(ho:o.op=.call {callee:=.builtin .append,args,argTypes})
  (ha:args.toList=[x,y]) (ht:argTypes.toList=[t,M]) (U:lV P t=some (e,sz,by_)) (h2:aJ.isSliceT P M=true) (hx:bC s.tmps x=.slice [] .nils) (hy:bC s.tmps y=.slice ys tag)
  (hk:bS (obj? s.heap k)=true) (B:ys.length*by_<=140737488355328) (D:ys.length<=140737488355328) (h3:ys.all (bX sz)=true):
  xX P o s (s.wr (.obj k (.tip (ys.length*sz))::au o.dst (.slice ys (.tip k sz)))):=
 nT λC O a w g=>by
  have ea:args=#[x,y]:=by rw[<-qBo (xs:=args),ha]
  have et:argTypes=#[t,M]:=by rw[<-qBo (xs:=argTypes),ht]
  subst ea et;have r:=g.ev x;rw[hx]at r;have q:=g.ev y;rw[hy]at q;have c:∀(v:Value) (E:World),(Builtin.append_ #[t,M] o.type #[a.eval x,a.eval y]).run P w=.ok v E->(execOp a.eval o).run P w=.ok (.value v) E:=λv E h=>by simp[execOp,ho,resolve,invoke,builtin,h]
  have p:a.eval x=.slice none 0 0:=by
   generalize a.eval x=u at r;cases r with|slice b off sz' f _ _ _ _ _ _ _ Q=>obtain⟨rfl,rfl⟩:=Q;rfl
  by_cases F:ys=[]
  ·subst F;obtain⟨G,H,e2,_,_⟩:=q.lu;obtain⟨N,i,z,hi,rfl,rfl,hz,hzs⟩:=mZ U;obtain⟨el2,R⟩:=uN h2;obtain⟨I,hlt⟩:=xO hk;refine⟨.slice none 0 0,O,w,c _ _ ?_,?_⟩
   ·rw[p,e2];have S:(Builtin.firstCells i.size 0 (.slice G 0 H)).run P w=.ok #[] w:=by cases G<;>simp[Builtin.firstCells,loadCells,loadCellsFrom]
    have A:∀w:World,(sizeOf e).run P w=.ok i.size w:=λw=>by simp[sizeOf,typeInfo,hi]
    simp only[qAC]at *;simp[Builtin.append_,run_underlying N,run_underlying R,A,Builtin.lenOf,S]
   have J:Sim C O (s.setObj k (.tip (([]:List (List AV)).length*i.size))) a w:=by
    simp only[qAC,qDv];have d:=g.resv k I;have m:∀l b,at? O l=some b->k≠l:=λl b B e=>by subst e;rw[d]at B;cases B
    refine g.step (H':=s.heap.set k (.tip 0)) (Evo.refl _ _) (dw.refl _) (by simp[g.klen]) ?_ (λl b h1 h2=>.inl ⟨h1,obj?_set_other (m l b h1),rfl⟩)
     (λl1 l2 b K L g3 g4=>g.apart l1 l2 b K L (by rwa[obj?_set_other (m l1 b K)]at g3) (by rwa[obj?_set_other (m l2 b L)]at g4)) g.bound ?_ (λ_ _=>rfl) rfl rfl rfl
    ·rintro b o (B|⟨l,K,L⟩) _
     ·exact .inl B
     rw[obj?_set_other (m l b K)]at L;exact .inr ⟨l,K,L⟩
    intro l hl;by_cases e:k=l;·subst e;exact d
    rw[obj?_set_other e]at hl;exact g.resv l hl
   refine J.au o.dst ?_;exact .slice (es:=[]) 0 0 i.size (λ_ _=>undef) (λi h=>by cases h) (λh=>(h rfl).elim) (qBf _) (by simp) (λi j h=>by cases h) (λi j h=>by cases h) (λi j h=>by cases h) ⟨rfl,.inl ⟨rfl,rfl⟩⟩
  obtain⟨v,T,E,h4,h5⟩:=arT (P:=P) (ty:=o.type) g hk r q U h2 (by simpa using B) (by simpa using D) (by simp) h3 (λad n cap N=>by rw[p]at N;cases N;have:=qCt.2 F;simp;omega) o.dst
  exact⟨v,T,E,c _ _ h4,by simpa using h5⟩
end
section
open Go
def aj6:Value->Bool| .agg _=>false| .tuple _=>false|_=>true
theorem apQ{w κ pv v u}(h:Rel w κ pv v u)(hs:isScalar v=true):aj6 u=true:=by cases h<;>simp[isScalar]at hs<;>rfl
theorem au4{P w b j u y}(hs:aj6 u=true)(h:w.cell? ⟨b,j,none⟩=some y)(f:w.frozen? ⟨b,j,none⟩=false):
  (Go.store ⟨b,j,none⟩ u).run P w=.ok () (w.setCell ⟨b,j,none⟩ u):=by cases u<;>simp[aj6]at hs<;>simp[Go.store,Sem.run,h,f]
theorem Tg{P}{b off}{e}:∀s i w c,w.heap[b]? =some (Obj.cells c e (0,0))->off+i+s.length<=c.size->s.all aj6=true->
  ∃a d,(storeCells ⟨b,off,none⟩ s i).run P w=.ok () a/\a.heap[b]? =some (Obj.cells d e (0,0))/\d.size=c.size/\
   (∀m,d.getD m undef=if off+i<=m/\m<off+i+s.length then s.getD (m - (off+i)) undef else c.getD m undef)/\
   (∀x:Nat,x≠b->a.heap[x]? =w.heap[x]?)/\a.heap.size=w.heap.size/\a.os=w.os/\a.tape=w.tape/\a.output=w.output:=by
 intro s
 induction s with
 |nil=>
  intro i w c f _ _;refine⟨w,c,by simp[storeCells],f,rfl,λm=>?_,λ_ _=>rfl,rfl,rfl,rfl,rfl⟩
  grind
 |cons u s o=>
  intro i w c f g h;simp only[qAo]at g;simp only[qBK,qAb]at h;have l:off+i<c.size:=by omega
  have r:(Go.store ⟨b,off+i,none⟩ u).run P w=.ok () (w.setCell ⟨b,off+i,none⟩ u):=au4 h.1 (y:=c[off+i]) (by simp[World.cell?,f,l]) (by simp[World.frozen?,f]);obtain⟨a,d,p,q,t,v,z,A,B,C,D⟩:=o (i+1) _ (c.setIfInBounds (off+i) u) (AQ (j:=off+i) (u:=u) f) (by simp;omega) h.2;refine⟨a,d,by simp[storeCells,A9,r,p],q,by simpa using t,λm=>?_,λx k=>by rw[z x k,qw k],by simpa using A,B,C,D⟩;rw[v m];by_cases n:off+(i+1)<=m/\m<off+(i+1)+s.length;·rw[if_pos n,if_pos (by simp;omega)];rw[show m - (off+i)=(m - (off+(i+1)))+1 from by omega];simp[List.getD]
  rw[if_neg n];by_cases E:m=off+i;·subst E;rw[rC l,if_pos (by simp)];simp[List.getD]
  rw[mM (by omega),if_neg (by simp;omega)]
theorem as1{P:Program}{C:Ctx}{κ:aM}{s:ASt}{a:Act}{w:World}(hs:Sim C κ s a w){k l b:Nat}(hk:bS (obj? s.heap k)=true){e sz by_ t t2 ty:Nat}{es ys:List (List AV)}{tag2:Tag}{cap:Nat}{u2:Value}{c:Array Value}{ce:TypeId}
  (hu:Rel w κ (aD C.ak κ s.heap) (.slice es (.tip l sz)) (.slice (some ⟨b,0,none⟩) es.length cap)) (E:at? κ l=some b) (S:w.heap[b]? =some (Obj.cells c ce (0,0))) (hcs:cap*sz<=c.size)
  (I:obj? s.heap l=.tip (es.length*sz)) (hu2:Rel w κ (aD C.ak κ s.heap) (.slice ys tag2) u2) (he:lV P t=some (e,sz,by_)) (h2:aJ.isSliceT P t2=true)
  (hlim:es.length+ys.length<=140737488355328) (h1:es.all (bX sz)=true) (h3:ys.all (bX sz)=true) (B:es.length+ys.length<=cap) (d:Option Tmp):
  ∃v κ' W,(Builtin.append_ #[t,t2] ty #[.slice (some ⟨b,0,none⟩) es.length cap,u2]).run P w=.ok v W/\
   Sim C κ' (s.wr (.obj l .dead:: .obj k (.tip ((es++ys).length*sz))::au d (.slice (es++ys) (.tip k sz)))) (a.put d v) W:=by
 obtain⟨hres,u⟩:=xO hk;have F:k<κ.length:=by rw[hs.klen];exact u
 have n:(es++ys).length=es.length+ys.length:=by simp
 obtain⟨ad2,cap2,Q,_,_⟩:=hu2.lu;obtain⟨G,n1,n2,n3⟩:=oD (P:=P) hu2 (λi H=>(gM h3 i H).1);obtain⟨hut,i,z,H,hsz,hby,hz,hzs⟩:=mZ he;obtain⟨el2,hu2t⟩:=uN h2;have hle:es.length*sz+ys.length*sz<=c.size:=by rw[<-qAV];exact qAu (qAQ _ B) hcs
 have hone:G.toList.all aj6=true:=by
  rw[qAJ];intro x T;obtain⟨m,hm,rfl⟩:=qBz T;have hm':m<ys.length*sz:=by rw[<-n2];simpa using hm
  have hzp:0<sz:=qCi (λe=>by subst e;simp at hm');have J:m/sz<ys.length:=(qCL hzp).2 hm';have hj':m%sz<sz:=qDs _ hzp;have hr:=n3 (m/sz) (m%sz) J hj';rw[qBB,qCR]at hr;have hg:G.getD m undef=G.toList[m]:=by
   have hms:m<G.size:=by simpa using hm
   simp[Array.getD,hms]
  rw[hg]at hr;refine apQ hr ?_;obtain⟨q1,q2⟩:=gM h3 (m/sz) J;generalize ys.getD (m/sz) []=ee at q1 q2|-;have hlt':m%sz<ee.length:=by omega
  rw[List.getD,qAc hlt',qAv];exact qAJ.1 q2 _ (qAN _)
 obtain⟨W,X,r1,r2,r3,r4,r5,r6,r7,r8,r9⟩:=Tg (P:=P) (b:=b) (off:=es.length*sz) (e:=ce) G.toList 0 w c S (by simp[n2];omega) hone;have hrun:(Builtin.append_ #[t,t2] ty #[.slice (some ⟨b,0,none⟩) es.length cap,u2]).run P w=.ok (.slice (some ⟨b,0,none⟩) (es.length+ys.length) cap) W:=by
  have hsize:∀w:World,(sizeOf e).run P w=.ok sz w:=λw=>by simp[sizeOf,typeInfo,H,hsz]
  have hadd:Addr.add ⟨b,0,none⟩ (es.length*sz)=⟨b,es.length*sz,none⟩:=by rw[A9];simp
  have hn:Builtin.lenOf u2=pure ys.length:=by subst Q;rfl
  simp[Builtin.append_,run_underlying hut,run_underlying hu2t,hsize,hn,B,n1,hadd,r1]
 -- the new state
 have Y:∀o,o<es.length*sz->X.getD o undef=c.getD o undef:=λo ho=>by rw[r4 o,if_neg (by omega)]
 have K:Evo (aD C.ak κ s.heap) w W:=by
  refine⟨by omega,λx o y hn hc=>?_,λx d e' z' T=>?_⟩
  ·by_cases L:x=b
   ·subst L;have ho:o<es.length*sz:=Nat.lt_of_not_le λhle'=>hn (.inr ⟨l,E,by rw[I];exact hle'⟩);have h5:=Y o ho;have hoc:o<c.size:=by omega
    have Z:o<X.size:=by omega
    simp only[World.cell?,S,qCw,qBN,if_false,qBw hoc]at hc;simp only[World.cell?,r2,qCw,qBN,if_false,qBw Z];simp only[Array.getD,hoc,Z,dif_pos]at h5;rw[<-hc];exact congrArg some h5
   simpa[World.cell?,r5 x L]using hc
  by_cases L:x=b;·subst L;rw[S]at T;cases T;exact⟨X,r2,r3⟩
  exact⟨d,by rw[r5 x L];exact T,rfl⟩
 have hkn:∀x y,at? κ x=some y->k≠x:=λx y M e=>by subst e;rw[hs.resv _ hres]at M;cases M
 have hlk':l≠k:=(hkn l b E).symm;have hll:l<s.heap.length:=by rw[<-hs.klen];exact lt_of_at? E
 have N:dw κ (κ.set k (some b)):=λx y M=>by rw[at?_set_other (hkn x y M)];exact M
 let U:=(s.heap.set l .dead).set k (.tip ((es++ys).length*sz))
 have D:obj? U k=.tip ((es++ys).length*sz):=obj?_set_same (by simpa using u);have A:obj? U l=.dead:=by show obj? ((s.heap.set l .dead).set k _) l=_;rw[obj?_set_other hlk'.symm];exact obj?_set_same hll
 have p:∀x,x≠k->x≠l->obj? U x=obj? s.heap x:=λx h1 h2=>by show obj? ((s.heap.set l .dead).set k _) x=_;rw[obj?_set_other h1.symm,obj?_set_other h2.symm]
 have hp:∀x o,aD C.ak (κ.set k (some b)) U x o->x<w.heap.size->aD C.ak κ s.heap x o:=by
  rintro x o (T|⟨r,g,q⟩) _;·exact .inl T
  by_cases f:r=k;·subst f;rw[at?_set_same F]at g;cases g;rw[D]at q;refine .inr ⟨l,E,?_⟩;rw[I];simp only[uf]at q|-;rw[n,qAV]at q;omega
  by_cases h:r=l;·subst h;rw[A]at q;exact q.elim
  rw[at?_set_other (qBr f)]at g;rw[p r f h]at q;exact .inr ⟨r,g,q⟩
 have hsim:Sim C (κ.set k (some b)) {s with heap:=U} a W:=by
  refine hs.step (H':=U) K N (by simp[U,hs.klen]) hp ?_ ?_ ?_ ?_ ?_ r7 r8 r9
  ·intro r V g q;by_cases f:r=k
   ·subst f;rw[at?_set_same F]at g;cases g;refine .inr ⟨by rw[r6];exact hs.bound l b E,hs.own l b E (by rw[I];trivial),?_⟩;rw[D];exact⟨X,ce,r2,by rw[r3,n,qAV];exact hle⟩
   by_cases h:r=l
   ·subst h;rw[A]at q;exact q.elim
   rw[at?_set_other (qBr f)]at g;rw[p r f h]at q|-;refine .inl ⟨g,rfl,r5 V λeb=>?_⟩;subst eb;exact h (hs.apart r l V g E q (by rw[I];trivial))
  ·intro l1 l2 V g q g3 g4;by_cases R:l1=k<;>by_cases Q:l2=k
   ·rw[R,Q]
   ·subst R;rw[at?_set_same F]at g;cases g;rw[at?_set_other (qBr Q)]at q;by_cases h:l2=l
    ·subst h;rw[A]at g4;exact g4.elim
    rw[p l2 Q h]at g4;exact(h (hs.apart l2 l b q E g4 (by rw[I];trivial))).elim
   ·subst Q;rw[at?_set_same F]at q;cases q;rw[at?_set_other (qBr R)]at g;by_cases h:l1=l
    ·subst h;rw[A]at g3;exact g3.elim
    rw[p l1 R h]at g3;exact(h (hs.apart l1 l b g E g3 (by rw[I];trivial))).elim
   rw[at?_set_other (qBr R)]at g;rw[at?_set_other (qBr Q)]at q;refine hs.apart l1 l2 V g q ?_ ?_
   ·by_cases h:l1=l
    ·subst h;rw[I];trivial
    rwa[p l1 R h]at g3
   by_cases h:l2=l
   ·subst h;rw[I];trivial
   rwa[p l2 Q h]at g4
  ·intro r V g;rw[r6];by_cases f:r=k
   ·subst f;rw[at?_set_same F]at g;cases g;exact hs.bound l b E
   rw[at?_set_other (qBr f)]at g;exact hs.bound r V g
  ·intro r g;by_cases f:r=k
   ·subst f;rw[D]at g;cases g
   by_cases h:r=l
   ·subst h;rw[A]at g;cases g
   rw[p r f h]at g;rw[at?_set_other (qBr f)];exact hs.resv r g
  intro V hb';refine r5 V λeb=>?_;subst eb;exact hs.own l V E (by rw[I];trivial) hb'
 refine⟨_,κ.set k (some b),W,hrun,?_⟩;refine hsim.au d ?_;have hrel:=Rel.slice (w:=W) (κ:=κ.set k (some b)) (pv:=aD C.ak (κ.set k (some b)) U) (es:=es++ys) (tag:=.tip k sz) (a:=some ⟨b,0,none⟩) (cap:=cap) b 0 sz (λi j=>X.getD (i*sz+j) undef)
  (λi H=>by
   rw[n]at H;by_cases u:i<es.length
   ·have:(es++ys).getD i []=es.getD i []:=by simp[List.getD,qAi u]
    rw[this];exact(gM h1 i u).1
   have:(es++ys).getD i []=ys.getD (i - es.length) []:=by simp[List.getD,qAk (qBb u)]
   rw[this];exact(gM h3 _ (by omega)).1)
  (λ_=>rfl) (by rw[n];exact B) (by rw[n];omega)
  (λi j H hj hpv=>by
   have O:=sO H hj;rcases hpv with T|⟨r,g,q⟩
   ·exact hs.own l b E (by rw[I];trivial) (hs.pvold _ _ T)
   by_cases f:r=k
   ·subst f;rw[D]at q;simp only[uf]at q;omega
   by_cases h:r=l
   ·subst h;rw[A]at q;exact q.elim
   rw[at?_set_other (qBr f)]at g;rw[p r f h]at q;have hlv:live (obj? s.heap r):=by revert q;cases obj? s.heap r<;>simp[uf,live]
   exact h (hs.apart r l b g E hlv (by rw[I];trivial)))
  (λi j H hj=>by
   have O:=sO H hj;rw[n,qAV]at O;have:i*sz+j<X.size:=by omega
   simp[World.cell?,r2,Array.getD,this])
  (λi j H hj=>by
   rw[n]at H;by_cases u:i<es.length
   ·have R:(es++ys).getD i []=es.getD i []:=by simp[List.getD,qAi u]
    have O:=sO u hj;rw[R,Y _ O];obtain⟨old,o1,o2,o3⟩:=oD (P:=P) hu (λi H=>(gM h1 i H).1);have:=o3 i j u hj;have eo:old.getD (i*sz+j) undef=c.getD (i*sz+j) undef:=by
     have hrun2:=run_loadCellsFrom (P:=P) (w:=w) (b:=b) (off:=0) (λm=>c.getD m undef) (es.length*sz) 0 #[] (λm hm=>by
      have:m<c.size:=by omega
      simp[World.cell?,S,Array.getD,this])
     simp only[Builtin.firstCells,loadCells]at o1;rw[hrun2]at o1;simp only[Result.ok.injEq]at o1;rw[<-o1.1];simp[Array.getD,O]
    rw[eo]at this;exact this.mono K N hp
   have R:(es++ys).getD i []=ys.getD (i - es.length) []:=by simp[List.getD,qAk (qBb u)]
   have J:i - es.length<ys.length:=by omega
   have h4:=sO J hj;have h5:i*sz=es.length*sz+(i - es.length)*sz:=by rw[<-qAV];congr 1;omega
   have Q:X.getD (i*sz+j) undef=G.getD ((i - es.length)*sz+j) undef:=by
    rw[r4,if_pos (by simp[n2];omega)];rw[show i*sz+j - (es.length*sz+0)=(i - es.length)*sz+j from by omega];simp[qAq,List.getD]
   rw[R,Q];exact(n3 _ j J hj).mono K N hp)
  ⟨rfl,.inr ⟨b,X,ce,at?_set_same F,rfl,r2,by rw[r3];exact hcs⟩⟩
 rw[n]at hrel;exact hrel
end
section
open Go
theorem abX{ak κ H l}:∀x o,aD ak κ (H.set l .dead) x o->aD ak κ H x o:=by
 rintro x o (b|⟨a,c,h⟩);·exact .inl b
 by_cases e:l=a
 ·subst e;by_cases t:l<H.length
  ·rw[obj?_set_same t]at h;exact h.elim
  rw[obj?,qAE (by simp;omega)]at h;exact h.elim
 rw[obj?_set_other e]at h;exact .inr ⟨a,c,h⟩
theorem aki{P}{o}{s}{args}{argTypes:Array TypeId}{x y:Operand}{t t2 k l e sz by_:Nat}{es ys:List (List AV)}{tag:Tag}(ho:o.op=.call {callee:=.builtin .append,args,argTypes})
  (ha:args.toList=[x,y]) (ht:argTypes.toList=[t,t2]) (he:lV P t=some (e,sz,by_)) (h2:aJ.isSliceT P t2=true) (hx:bC s.tmps x=.slice es (.tip l sz)) (hy:bC s.tmps y=.slice ys tag)
  (hl:obj? s.heap l=.tip (es.length*sz)) (hk:bS (obj? s.heap k)=true) (hb:(es.length+ys.length)*by_<=140737488355328) (hlim:es.length+ys.length<=140737488355328) (h1:es.all (bX sz)=true) (h3:ys.all (bX sz)=true):
  xX P o s (s.wr (.obj l .dead:: .obj k (.tip ((es++ys).length*sz))::au o.dst (.slice (es++ys) (.tip k sz)))):=
 nT λC κ a w hs=>by
  have ea:args=#[x,y]:=by rw[<-qBo (xs:=args),ha]
  have et:argTypes=#[t,t2]:=by rw[<-qBo (xs:=argTypes),ht]
  subst ea et;have r:=hs.ev x;rw[hx]at r;have hry:=hs.ev y;rw[hy]at hry;have d:∀(v:Value) (w':World),(Builtin.append_ #[t,t2] o.type #[a.eval x,a.eval y]).run P w=.ok v w'->(execOp a.eval o).run P w=.ok (.value v) w':=λv w' h=>by simp[execOp,ho,resolve,invoke,builtin,h]
  have hlk:l≠k:=λe=>by subst e;rw[hl]at hk;cases hk
  have g:=hs.kill l;have hev:Evo (aD C.ak κ s.heap) w w:=Evo.refl _ _;have hrx1:Rel w κ (aD C.ak κ (s.setObj l .dead).heap) (.slice es (.tip l sz)) (a.eval x):=r.mono hev (dw.refl _) (λx o h _=>abX x o h);have hry1:Rel w κ (aD C.ak κ (s.setObj l .dead).heap) (.slice ys tag) (a.eval y):=hry.mono hev (dw.refl _) (λx o h _=>abX x o h);have hk1:bS (obj? (s.setObj l .dead).heap k)=true:=by simp only[ASt.setObj];rw[obj?_set_other hlk];exact hk
  have hgrow:(∀ad n p,a.eval x=.slice ad n p->p<es.length+ys.length)->∃u m w',(execOp a.eval o).run P w=.ok (.value u) w'/\
    Sim C m (s.wr (.obj l .dead:: .obj k (.tip ((es++ys).length*sz))::au o.dst (.slice (es++ys) (.tip k sz)))) (a.put o.dst u) w':=λhroom=>by obtain⟨v,m,w',h4,h5⟩:=arT (P:=P) (ty:=o.type) g hk1 hrx1 hry1 he h2 hb hlim h1 h3 hroom o.dst;exact⟨v,m,w',d _ _ h4,h5⟩
  obtain⟨ad,p,hax,hcap,_⟩:=r.lu;have htag:Qw w κ ad p sz (.tip l sz)/\(es≠[]->ad≠none):=by
   rw[hax]at r;cases r with|slice b off sz' f q1 q2 q3 q4 q5 q6 q7 ht'=>obtain⟨e1,e2⟩:=ht';subst e1;exact⟨⟨rfl,e2⟩,λhne=>by rw[q2 hne];simp⟩
  obtain⟨⟨_,htag⟩,hne⟩:=htag;by_cases hroom:p<es.length+ys.length;·exact hgrow λad' n' cap' hu=>by rw[hax]at hu;cases hu;exact hroom
  rcases htag with⟨rfl,rfl⟩|⟨b,c,ce,t1,rfl,t3,t4⟩
  ·-- nil, and nothing appended
   have hes:es=[]:=by cases es with|nil=>rfl|cons=>exact(hne (by simp) rfl).elim
   have hys:ys=[]:=by cases ys with|nil=>rfl|cons=>simp at hroom
   subst hes hys;obtain⟨ad2,cap2,e2,_,_⟩:=hry.lu;obtain⟨hu,i,z,hi,rfl,rfl,hz,hzs⟩:=mZ he;obtain⟨el2,hu2⟩:=uN h2;obtain⟨hres,hlt⟩:=xO hk1;refine⟨.slice none 0 0,κ,w,d _ _ ?_,?_⟩
   ·rw[hax,e2];have hfc:(Builtin.firstCells i.size 0 (.slice ad2 0 cap2)).run P w=.ok #[] w:=by cases ad2<;>simp[Builtin.firstCells,loadCells,loadCellsFrom]
    have hsize:∀w:World,(sizeOf e).run P w=.ok i.size w:=λw=>by simp[sizeOf,typeInfo,hi]
    simp only[qAC]at *;simp[Builtin.append_,run_underlying hu,run_underlying hu2,hsize,Builtin.lenOf,hfc]
   have hsim:Sim C κ ((s.setObj l .dead).setObj k (.tip 0)) a w:=by
    have hnone:=g.resv k hres;have hne:∀l' b,at? κ l'=some b->k≠l':=λl' b hb e=>by subst e;rw[hnone]at hb;cases hb
    refine g.step (H':=(s.setObj l .dead).heap.set k (.tip 0)) (Evo.refl _ _) (dw.refl _) (by simp[g.klen]) ?_ (λl' b h1 h2=>.inl ⟨h1,obj?_set_other (hne l' b h1),rfl⟩)
     (λl1 l2 b g1 g2 g3 g4=>g.apart l1 l2 b g1 g2 (by rwa[obj?_set_other (hne l1 b g1)]at g3) (by rwa[obj?_set_other (hne l2 b g2)]at g4)) g.bound ?_ (λ_ _=>rfl) rfl rfl rfl
    ·rintro b o (hb|⟨l',g1,g2⟩) _
     ·exact .inl hb
     rw[obj?_set_other (hne l' b g1)]at g2;exact .inr ⟨l',g1,g2⟩
    intro l' hl';by_cases e:k=l';·subst e;exact hnone
    rw[obj?_set_other e]at hl';exact g.resv l' hl'
   have:=hsim.au o.dst (v:=.slice [] (.tip k i.size)) (u:=.slice none 0 0) (.slice (es:=[]) 0 0 i.size (λ_ _=>undef) (λi h=>by cases h) (λh=>(h rfl).elim) (qBf _) (by simp) (λi j h=>by cases h) (λi j h=>by cases h) (λi j h=>by cases h) ⟨rfl,.inl ⟨rfl,rfl⟩⟩);have ez:(([]:List (List AV))++[]).length*i.size=0:=by simp
   rw[ez];exact this
  rw[hax]at r d;obtain⟨v,m,w',h4,h5⟩:=as1 (P:=P) (ty:=o.type) hs hk r t1 t3 t4 hl hry he h2 hlim h1 h3 (by omega) o.dst;exact⟨v,m,w',d _ _ h4,h5⟩
theorem apv{place}:∀a cs out,kg place cs a=some out->out.length=cs.length:=by
 intro a
 induction a with|nil=>intro cs out h;simp only[kg,Option.some.injEq]at h;rw[h]|cons p a i=>
  intro cs out h;simp only[kg]at h
  grind
theorem as9 sz:∀n cs,cs.length=n*sz->(chunks sz n cs).length=n/\∀i,i<n->((chunks sz n cs).getD i []).length=sz/\∀j,j<sz->((chunks sz n cs).getD i []).getD j .unk=cs.getD (i*sz+j) .unk:=by
 intro n
 induction n with|zero=>intro cs _;exact⟨rfl,λi h=>by cases h⟩|succ n b=>
  intro cs l;rw[qAV,qCk]at l;obtain⟨c,d⟩:=b (cs.drop sz) (by simp;omega);refine⟨by simp[chunks,c],λi h=>?_⟩;cases i with
  |zero=>
   refine⟨by simp[chunks,List.getD];omega,λj a=>?_⟩;simp only[chunks,List.getD,qAF,qAv,qDv,qAK]
   grind
  |succ i=>obtain⟨e,f⟩:=d i (by omega);refine⟨by simpa[chunks,List.getD]using e,λj a=>?_⟩;have:=f j a;rw[getD_drop]at this;rw[show(i+1)*sz+j=sz+(i*sz+j)from by rw[qAV];omega];rw[<-this];simp[chunks,List.getD]
theorem YL(z:List AV):∀n m,m<n*z.length->((List.replicate n z).flatten).getD m .unk=z.getD (m%z.length) .unk:=by
 intro n
 induction n with|zero=>intro m a;simp at a|succ n i=>
  intro m a;rw[qCu,qCn];by_cases h:m<z.length;·rw[List.getD,qAi h,qCe h];rfl
  have l:z.length<=m:=by omega
  rw[List.getD,qAk l];have:=i (m - z.length) (by rw[qAV]at a;omega);rw[List.getD]at this;rw[this,Nat.mod_eq_sub_mod l]
theorem Rel.shr{w}{κ}{pv}{x}{v}(h:Rel w κ pv x v):Rel w κ pv (shr x) v:=by
 cases h with|slice b o s u f g i j k l m _=>exact .slice b o s u f g i j k l m trivial|unk=>exact .unk _|int h=>exact .int h|bool=>exact .bool _|str h=>exact .str h|nilp=>exact .nilp|ifc t v=>exact .ifc t v|ptr h=>exact .ptr h|eptr u a b c=>exact .eptr u a b c|agg a b=>exact .agg a b|tup a b=>exact .tup a b|func a b=>exact .func a b|mapr h=>exact .mapr h|nilFunc=>exact .nilFunc|psl f g i=>exact .psl f g i|flnil=>exact .flnil|flcons u x a b c d e=>exact .flcons u x a b c d e
theorem abg{cs:List AV}{j}:(cs.map Abs.shr).getD j .unk=Abs.shr (cs.getD j .unk):=by simp;cases cs[j]?<;>rfl
theorem ajw{P o s}{t len k e sz by_:Nat}{r z cs}(X:o.op=.buildSlice t len r)(Y:lV P t=some (e,sz,by_))(Z:kr P e=some z)
  (hk:bS (obj? s.heap k)=true) (Q:len*sz<=16777216) (I:len<=16777216) (h:z.length=sz) (R:kg (λi=>some (i*sz,sz)) ((List.replicate len z).flatten) (r.toList.map λp=>(p.1,bC s.tmps p.2))=some cs):
  xX P o s (s.wr (.obj k (.tip (len*sz))::au o.dst (.slice (chunks sz len (cs.map shr)) (.tip k sz)))):=
 nT λC B a w S=>by
  obtain⟨J,i,zv',A,K,hby,hzz,hzs⟩:=mZ Y;obtain⟨v,z1,L,z3⟩:=aiJ Z;have l:((List.replicate len z).flatten).length=len*sz:=by simp[h]
  let b:Array Value:=if len*sz=0 then #[]else v.cells
  let n:Array Value:=(Array.range (len*sz)).map (b[·%b.size]!)
  have q:n.size=((List.replicate len z).flatten).length:=by rw[l];simp[n]
  have D:∀j,j<((List.replicate len z).flatten).length->Rel w B (aD C.ak B s.heap) (((List.replicate len z).flatten).getD j .unk) (n.getD j undef):=λj g=>by
   rw[l]at g;have E:0<sz:=qCi (λe=>by subst e;simp at g);have f:b=v.cells:=by show(if _ then _ else _)=_;rw[if_neg (by omega)]
   have F:b.size=sz:=by rw[f,L,h]
   rw[YL z len j (by rw[h];exact g),h];have T:j%sz<sz:=qDs _ E;have M:n.getD j undef=v.cells.getD (j%sz) undef:=by
    have G:j%sz<v.cells.size:=by rw[L,h];exact T
    simp only[n,Array.getD,Array.size_map,Array.size_range,g,dif_pos,Array.getInternal_eq_getElem,Array.getElem_map,Array.getElem_range,F,f,G];have N:v.cells.size=sz:=by rw[L,h]
    rw[show j%v.cells.size=j%sz from by rw[N]];exact getElem!_pos v.cells (j%sz) G
   rw[M];exact z3 _ _ _ _ (by rw[h];exact T)
  obtain⟨c',U,f2,f3⟩:=WJ (w:=w) (κ:=B) (pv:=aD C.ak B s.heap) (place:=λi=>some (i*sz,sz)) (r.toList.map λp=>(p.1,bC s.tmps p.2)) (r.toList.map λp=>(p.1,a.eval p.2)) _ cs n (by simp)
   (λj g=>by simp only[qAg]at g;simp only[List.getD,qAH,qAc g,qAx,qAv];exact⟨trivial,S.ev _⟩) q D R
  have u:cs.length=len*sz:=by rw[apv _ _ _ R,l]
  obtain⟨V,W⟩:=as9 sz len (cs.map Abs.shr) (by simpa using u);obtain⟨O,m⟩:=Zq (P:=P) S hk (es:=chunks sz len (cs.map Abs.shr)) (c:=c') (e:=e) (cap:=len) (sz:=sz) (λi A=>(W i (by omega)).1) (by omega) (by omega) (by rw[f2,u];exact qAd _)
   (λi j A g=>by rw[V]at A;rw[(W i A).2 j g,abg];exact(f3 _ (by rw[u];exact sO A g)).shr) o.dst
  rw[V]at m;refine⟨_,O,_,?_,m⟩;have y:(sizeOf e).run P w=.ok sz w:=by simp[sizeOf,typeInfo,A,K]
  have M:(r.map λp=>(p.1,a.eval p.2)).toList=r.toList.map λp=>(p.1,a.eval p.2):=by simp
  simp only[execOp,X,Instr.buildSlice,Sem.run_bind,run_underlying J,Result.andThen_ok,y];rw[Sem.run_ite,if_neg (by omega)];simp only[Sem.run_pure,Result.andThen_ok,Sem.run_bind];rw[M];by_cases H:len*sz=0
  ·have f:b=#[]:=if_pos H;have d:(Array.range (len*sz)).map (λx=>(#[]:Array Value)[x%(#[]:Array Value).size]!)=n:=by simp only[n,f]
   rw[if_pos H];simp only[Sem.run_pure,Result.andThen_ok,Sem.run_bind];rw[d,U];simp[newRow]
  have f:b=v.cells:=if_neg H;have d:(Array.range (len*sz)).map (λx=>v.cells[x%v.cells.size]!)=n:=by simp only[n,f]
  rw[if_neg H];simp only[Sem.run_pure,Result.andThen_ok,Sem.run_bind,z1];rw[d,U];simp[newRow]
end
section
open Go
theorem ar4{o n}(h:uf o n):live o:=by cases o<;>simp[uf,live]at *
theorem ajE{C κ s a}{w:World}(hs:Sim C κ s a w){k:Nat}(p:bS (obj? s.heap k)=true){es:List (List AV)}{c:Array Value}{e:TypeId}{cap sz:Nat}
  (n:∀i,i<es.length->(es.getD i []).length=sz) (h:es.length<=cap) (b:es.length<=140737488355328) (o:cap*sz<=c.size)
  (q:∀i j,i<es.length->j<sz->Rel w κ (aD C.ak κ s.heap) ((es.getD i []).getD j .unk) (c.getD (i*sz+j) undef)) (d:Option Tmp):
  ∃f,Sim C f (s.wr (.obj k (.arr sz es)::au d (.psl k sz es.length))) (a.put d (.slice (some ⟨w.heap.size,0,none⟩) es.length cap)) {w with heap:=w.heap.push (.cells c e (0,0))}:=by
 obtain⟨r,l⟩:=xO p;have g:k<κ.length:=by rw[hs.klen];exact l
 have m:=hs.new (hs.resv k r) l (.cells c e (0,0)) (.arr sz es) (by simp) ⟨c,e,tX,qAu (qAQ _ h) o,n,λi j t u=>aiW hs r l _ (q i j t u)⟩;exact⟨_,m.au d (.psl h b ⟨rfl,.inr ⟨w.heap.size,c,e,at?_set_same g,rfl,tX,o⟩⟩)⟩
theorem axv{P C κ}{s:ASt}{a:Act}{w:World}(hs:Sim C κ s a w){k:Nat}(Y:bS (obj? s.heap k)=true){t O e sz by_ ty:Nat}{es ys:List (List AV)}{tag y:Tag}{u u2:Value}
  (Q:Rel w κ (aD C.ak κ s.heap) (.slice es tag) u) (A:Rel w κ (aD C.ak κ s.heap) (.slice ys y) u2) (R:lV P t=some (e,sz,by_)) (h2:aJ.isSliceT P O=true)
  (Z:(es.length+ys.length)*by_<=140737488355328) (B:es.length+ys.length<=140737488355328) (S:es.all (bX sz)=true) (T:ys.all (bX sz)=true)
  (r:∀H n cap,u=.slice H n cap->cap<es.length+ys.length) (d:Option Tmp):
  ∃v p U,(Builtin.append_ #[t,O] ty #[u,u2]).run P w=.ok v U/\Sim C p (s.wr (.obj k (.arr sz (es++ys))::au d (.psl k sz (es++ys).length))) (a.put d v) U:=by
 obtain⟨H,cap,rfl,V,_⟩:=Q.lu;obtain⟨ad2,W,I,_,_⟩:=A.lu;have J:Sim C κ s a w.drew:=hs.sameHeap rfl rfl rfl rfl;have D:Evo (aD C.ak κ s.heap) w w.drew:=Evo.of_heap rfl;have K:=Q.mono D (dw.refl _) (λ_ _ h _=>h);have E:=A.mono D (dw.refl _) (λ_ _ h _=>h);obtain⟨o,o1,o2,o3⟩:=oD (P:=P) K (λi g=>(gM S i g).1);obtain⟨b,n1,n2,n3⟩:=oD (P:=P) E (λi g=>(gM T i g).1);obtain⟨_,i,z,g,hsz,hby,hz,L⟩:=mZ R;have M:=r H es.length cap rfl;obtain⟨x,hnc,F⟩:=run_append_grow (P:=P) (w:=w) (ty:=ty) (a:=H) (len:=es.length) (cap:=cap) (n:=ys.length) (u2:=u2) (old:=o) (new:=b) (z:=z) R h2 (by subst I;rfl) M Z B
  (by simp[zeroValue,typeInfo,g,hz]) o1 n1
 have f:(es++ys).length=es.length+ys.length:=by simp
 have q:(o++b++Builtin.zeroCells z.cells (x - (es.length+ys.length))).size=x*sz:=by
  simp only[qCm,o2,n2,size_zeroCells,L];rw[<-qAV,<-qAV]
  grind
 obtain⟨p,m⟩:=ajE J Y (es:=es++ys) (c:=o++b++Builtin.zeroCells z.cells (x - (es.length+ys.length))) (e:=e) (cap:=x) (sz:=sz)
  (λi g=>by
   rw[f]at g;by_cases l:i<es.length
   ·have:(es++ys).getD i []=es.getD i []:=by simp[List.getD,qAi l]
    rw[this];exact(gM S i l).1
   have:(es++ys).getD i []=ys.getD (i - es.length) []:=by simp[List.getD,qAk (qBb l)]
   rw[this];exact(gM T _ (by omega)).1)
  (by omega) (by omega) (qBk q.symm)
  (λi j g N=>by
   rw[f]at g;by_cases l:i<es.length
   ·have X:(es++ys).getD i []=es.getD i []:=by simp[List.getD,qAi l]
    have I:(o++b++Builtin.zeroCells z.cells (x - (es.length+ys.length))).getD (i*sz+j) undef=o.getD (i*sz+j) undef:=by have:=sO l N;simp only[qAq];rw[Array.append_assoc,qBL (by omega)]
    grind
   have X:(es++ys).getD i []=ys.getD (i - es.length) []:=by simp[List.getD,qAk (qBb l)]
   have G:i - es.length<ys.length:=by omega
   have I:(o++b++Builtin.zeroCells z.cells (x - (es.length+ys.length))).getD (i*sz+j) undef=b.getD ((i - es.length)*sz+j) undef:=by
    have h4:=sO G N;have h5:i*sz=es.length*sz+(i - es.length)*sz:=by rw[<-qAV];congr 1;omega
    simp only[qAq];rw[qBL (by rw[qCm];omega),qBH (by omega)];congr 2;omega
   rw[X,I];exact n3 _ j G N) d
 refine⟨_,p,_,F,?_⟩;rw[f]at m|-;exact m
theorem arV{P C κ s}{a:Act}{w:World}(hs:Sim C κ s a w){k l b:Nat}(hk:bS (obj? s.heap k)=true){e sz by_ t t2 ty:Nat}{es es0 ys:List (List AV)}{tag2:Tag}{cap:Nat}{u2:Value}{c:Array Value}{ce:TypeId}
  (hcapl:es.length<=cap) (F:at? κ l=some b) (V:w.heap[b]? =some (Obj.cells c ce (0,0))) (hcs:cap*sz<=c.size)
  (H:obj? s.heap l=.arr sz es0) (hes:es=es0.take es.length) (hu2:Rel w κ (aD C.ak κ s.heap) (.slice ys tag2) u2) (he:lV P t=some (e,sz,by_)) (h2:aJ.isSliceT P t2=true)
  (hlim:es.length+ys.length<=140737488355328) (h1:es.all (bX sz)=true) (h3:ys.all (bX sz)=true) (B:es.length+ys.length<=cap) (d:Option Tmp):
  ∃v κ' W,(Builtin.append_ #[t,t2] ty #[.slice (some ⟨b,0,none⟩) es.length cap,u2]).run P w=.ok v W/\
   Sim C κ' (s.wr (.obj l .dead:: .obj k (.arr sz (es++ys))::au d (.psl k sz (es++ys).length))) (a.put d v) W:=by
 obtain⟨hres,n⟩:=xO hk;have E:k<κ.length:=by rw[hs.klen];exact n
 have q:(es++ys).length=es.length+ys.length:=by simp
 obtain⟨ad2,cap2,N,_,_⟩:=hu2.lu;obtain⟨D,n1,n2,n3⟩:=oD (P:=P) hu2 (λi G=>(gM h3 i G).1);obtain⟨hut,i,z,G,hsz,hby,hz,hzs⟩:=mZ he;obtain⟨el2,hu2t⟩:=uN h2;have hle:es.length*sz+ys.length*sz<=c.size:=by rw[<-qAV];exact qAu (qAQ _ B) hcs
 have hone:D.toList.all aj6=true:=by
  rw[qAJ];intro x X;obtain⟨m,hm,rfl⟩:=qBz X;have hm':m<ys.length*sz:=by rw[<-n2];simpa using hm
  have hzp:0<sz:=qCi (λe=>by subst e;simp at hm');have I:m/sz<ys.length:=(qCL hzp).2 hm';have hj':m%sz<sz:=qDs _ hzp;have hr:=n3 (m/sz) (m%sz) I hj';rw[qBB,qCR]at hr;have hg:D.getD m undef=D.toList[m]:=by
   have hms:m<D.size:=by simpa using hm
   simp[Array.getD,hms]
  rw[hg]at hr;refine apQ hr ?_;obtain⟨q1,q2⟩:=gM h3 (m/sz) I;generalize ys.getD (m/sz) []=ee at q1 q2|-;have hlt':m%sz<ee.length:=by omega
  rw[List.getD,qAc hlt',qAv];exact qAJ.1 q2 _ (qAN _)
 obtain⟨W,c',r1,r2,r3,r4,r5,r6,r7,r8,r9⟩:=Tg (P:=P) (b:=b) (off:=es.length*sz) (e:=ce) D.toList 0 w c V (by simp[n2];omega) hone;have hrun:(Builtin.append_ #[t,t2] ty #[.slice (some ⟨b,0,none⟩) es.length cap,u2]).run P w=.ok (.slice (some ⟨b,0,none⟩) (es.length+ys.length) cap) W:=by
  have Y:∀w:World,(sizeOf e).run P w=.ok sz w:=λw=>by simp[sizeOf,typeInfo,G,hsz]
  have hadd:Addr.add ⟨b,0,none⟩ (es.length*sz)=⟨b,es.length*sz,none⟩:=by rw[A9];simp
  have hn:Builtin.lenOf u2=pure ys.length:=by subst N;rfl
  simp[Builtin.append_,run_underlying hut,run_underlying hu2t,Y,hn,B,n1,hadd,r1]
 -- the new state
 have hsz':∀o,o<es.length*sz->c'.getD o undef=c.getD o undef:=λo ho=>by rw[r4 o,if_neg (by omega)]
 have O:Evo (aD C.ak κ s.heap) w W:=by
  refine⟨by omega,λx o y hn hc=>?_,λx d e' z' X=>?_⟩
  ·by_cases J:x=b
   ·subst J;exact(hn (.inr ⟨l,F,by rw[H];trivial⟩)).elim
   simpa[World.cell?,r5 x J]using hc
  by_cases J:x=b;·subst J;rw[V]at X;cases X;exact⟨c',r2,r3⟩
  exact⟨d,by rw[r5 x J];exact X,rfl⟩
 have hkn:∀x y,at? κ x=some y->k≠x:=λx y K e=>by subst e;rw[hs.resv _ hres]at K;cases K
 have hlk':l≠k:=(hkn l b F).symm;have hll:l<s.heap.length:=by rw[<-hs.klen];exact lt_of_at? F
 have Q:dw κ (κ.set k (some b)):=λx y K=>by rw[at?_set_other (hkn x y K)];exact K
 let R:=(s.heap.set l .dead).set k (.arr sz (es++ys))
 have S:obj? R k=.arr sz (es++ys):=obj?_set_same (by simpa using n);have r:obj? R l=.dead:=by show obj? ((s.heap.set l .dead).set k _) l=_;rw[obj?_set_other hlk'.symm];exact obj?_set_same hll
 have p:∀x,x≠k->x≠l->obj? R x=obj? s.heap x:=λx h1 h2=>by show obj? ((s.heap.set l .dead).set k _) x=_;rw[obj?_set_other h1.symm,obj?_set_other h2.symm]
 have hp:∀x o,aD C.ak (κ.set k (some b)) R x o->x<w.heap.size->aD C.ak κ s.heap x o:=by
  rintro x o (X|⟨u,g,A⟩) _;·exact .inl X
  by_cases f:u=k;·subst f;rw[at?_set_same E]at g;cases g;exact .inr ⟨l,F,by rw[H];trivial⟩
  by_cases h:u=l;·subst h;rw[r]at A;exact A.elim
  rw[at?_set_other (qBr f)]at g;rw[p u f h]at A;exact .inr ⟨u,g,A⟩
 have T:=hs.obj l b F (by rw[H];trivial);rw[H]at T;obtain⟨c0,ce0,q1,q2,q3,q4⟩:=T;rw[V]at q1;cases q1;have U:∀i,i<es.length->i<es0.length/\es.getD i []=es0.getD i []:=λi G=>by
  have h5:i<(es0.take es.length).length:=by rw[<-hes];exact G
  simp only[qAB]at h5;refine⟨by omega,?_⟩;rw[hes];simp only[List.getD,qBt,if_pos G]
 have Z:∀i,i<(es++ys).length->((es++ys).getD i []).length=sz:=λi G=>by
  rw[q]at G;by_cases n:i<es.length
  ·have:(es++ys).getD i []=es.getD i []:=by simp[List.getD,qAi n]
   rw[this];exact(gM h1 i n).1
  have:(es++ys).getD i []=ys.getD (i - es.length) []:=by simp[List.getD,qAk (qBb n)]
  rw[this];exact(gM h3 _ (by omega)).1
 have hrels:∀i j,i<(es++ys).length->j<sz->Rel w κ (aD C.ak κ s.heap) (((es++ys).getD i []).getD j .unk) (c'.getD (i*sz+j) undef):=λi j G hj=>by
  rw[q]at G;by_cases n:i<es.length
  ·have L:(es++ys).getD i []=es.getD i []:=by simp[List.getD,qAi n]
   rw[L,hsz' _ (sO n hj),(U i n).2];exact q4 i j (U i n).1 hj
  have L:(es++ys).getD i []=ys.getD (i - es.length) []:=by simp[List.getD,qAk (qBb n)]
  have I:i - es.length<ys.length:=by omega
  have h4:=sO I hj;have h5:i*sz=es.length*sz+(i - es.length)*sz:=by rw[<-qAV];congr 1;omega
  rw[L,r4 (i*sz+j),if_pos (by simp only[qAP,qCg,n2];omega)];have h6:D.toList.getD (i*sz+j - (es.length*sz+0)) undef=D.getD ((i - es.length)*sz+j) undef:=by
   rw[show i*sz+j - (es.length*sz+0)=(i - es.length)*sz+j by omega];simp[List.getD,qAq]
  rw[h6];exact n3 _ j I hj
 have hsim:Sim C (κ.set k (some b)) {s with heap:=R} a W:=by
  refine hs.step (H':=R) O Q (by simp[R,hs.klen]) hp ?_ ?_ ?_ ?_ ?_ r7 r8 r9
  ·intro u M g A;by_cases f:u=k
   ·subst f;rw[at?_set_same E]at g;cases g;refine .inr ⟨by rw[r6];exact hs.bound l b F,hs.own l b F (by rw[H];trivial),?_⟩;rw[S];exact⟨c',ce,r2,by rw[r3,q,qAV];exact hle,Z,λi j G hj=>(hrels i j G hj).mono O Q hp⟩
   by_cases h:u=l
   ·subst h;rw[r]at A;exact A.elim
   rw[at?_set_other (qBr f)]at g;rw[p u f h]at A|-;refine .inl ⟨g,rfl,r5 M λeb=>?_⟩;subst eb;exact h (hs.apart u l M g F A (by rw[H];trivial))
  ·intro l1 l2 M g A g3 g4;by_cases L:l1=k<;>by_cases N:l2=k
   ·rw[L,N]
   ·subst L;rw[at?_set_same E]at g;cases g;rw[at?_set_other (qBr N)]at A;by_cases h:l2=l
    ·subst h;rw[r]at g4;exact g4.elim
    rw[p l2 N h]at g4;exact(h (hs.apart l2 l b A F g4 (by rw[H];trivial))).elim
   ·subst N;rw[at?_set_same E]at A;cases A;rw[at?_set_other (qBr L)]at g;by_cases h:l1=l
    ·subst h;rw[r]at g3;exact g3.elim
    rw[p l1 L h]at g3;exact(h (hs.apart l1 l b g F g3 (by rw[H];trivial))).elim
   rw[at?_set_other (qBr L)]at g;rw[at?_set_other (qBr N)]at A;refine hs.apart l1 l2 M g A ?_ ?_
   ·by_cases h:l1=l
    ·subst h;rw[H];trivial
    rwa[p l1 L h]at g3
   by_cases h:l2=l
   ·subst h;rw[H];trivial
   rwa[p l2 N h]at g4
  ·intro u M g;rw[r6];by_cases f:u=k
   ·subst f;rw[at?_set_same E]at g;cases g;exact hs.bound l b F
   rw[at?_set_other (qBr f)]at g;exact hs.bound u M g
  ·intro u g;by_cases f:u=k
   ·subst f;rw[S]at g;cases g
   by_cases h:u=l
   ·subst h;rw[r]at g;cases g
   rw[p u f h]at g;rw[at?_set_other (qBr f)];exact hs.resv u g
  intro M hb';refine r5 M λeb=>?_;subst eb;exact hs.own l M F (by rw[H];trivial) hb'
 refine⟨_,κ.set k (some b),W,hrun,?_⟩;rw[show es.length+ys.length=(es++ys).length from q.symm];exact hsim.au d (.psl (by rw[q];exact B) (by rw[q];exact hlim) ⟨rfl,.inr ⟨b,c',ce,at?_set_same E,rfl,r2,by rw[r3];exact hcs⟩⟩)
theorem ako{P}{o}{s}{args}{argTypes:Array TypeId}{x y:Operand}{t t2 k l e sz by_:Nat}{es es0 ys:List (List AV)}{tag:Tag}(ho:o.op=.call {callee:=.builtin .append,args,argTypes})
  (ha:args.toList=[x,y]) (ht:argTypes.toList=[t,t2]) (he:lV P t=some (e,sz,by_)) (h2:aJ.isSliceT P t2=true) (hx:bC s.tmps x=.psl l sz es.length) (hy:bC s.tmps y=.slice ys tag)
  (hl:obj? s.heap l=.arr sz es0) (hes:es=es0.take es.length) (hk:bS (obj? s.heap k)=true) (hb:(es.length+ys.length)*by_<=140737488355328) (hlim:es.length+ys.length<=140737488355328) (h1:es.all (bX sz)=true) (h3:ys.all (bX sz)=true):
  xX P o s (s.wr (.obj l .dead:: .obj k (.arr sz (es++ys))::au o.dst (.psl k sz (es++ys).length))):=
 nT λC κ a w hs=>by
  have ea:args=#[x,y]:=by rw[<-qBo (xs:=args),ha]
  have et:argTypes=#[t,t2]:=by rw[<-qBo (xs:=argTypes),ht]
  subst ea et;have hrx:=hs.ev x;rw[hx]at hrx;have hry:=hs.ev y;rw[hy]at hry;have d:∀(v:Value) (w':World),(Builtin.append_ #[t,t2] o.type #[a.eval x,a.eval y]).run P w=.ok v w'->(execOp a.eval o).run P w=.ok (.value v) w':=λv w' h=>by simp[execOp,ho,resolve,invoke,builtin,h]
  have hlk:l≠k:=λe=>by subst e;rw[hl]at hk;cases hk
  have f:=hs.kill l;have hev:Evo (aD C.ak κ s.heap) w w:=Evo.refl _ _;have hry1:Rel w κ (aD C.ak κ (s.setObj l .dead).heap) (.slice ys tag) (a.eval y):=hry.mono hev (dw.refl _) (λx o h _=>abX x o h);have hk1:bS (obj? (s.setObj l .dead).heap k)=true:=by simp only[ASt.setObj];rw[obj?_set_other hlk];exact hk
  obtain⟨ad,p,hax,hcap,hlim0,g⟩:∃ad p,a.eval x=.slice ad es.length p/\es.length<=p/\es.length<=140737488355328/\Qw w κ ad p sz (.tip l sz):=by
   generalize a.eval x=ux at hrx;cases hrx with|psl g1 g2 g3=>exact⟨_,_,rfl,g1,g2,g3⟩
  obtain⟨_,g⟩:=g;have hrx1:Rel w κ (aD C.ak κ (s.setObj l .dead).heap) (.slice es .shared) (a.eval x):=by
   rw[hax];rcases g with⟨rfl,rfl⟩|⟨b,c,ce,t1,rfl,t3,t4⟩
   ·have hes0:es=[]:=qAI.1 (by omega);rw[hes0];exact .slice (es:=[]) 0 0 sz (λ_ _=>undef) (λi h=>by cases h) (λh=>(h rfl).elim) (qBf _) (by simp) (λi j h=>by cases h) (λi j h=>by cases h) (λi j h=>by cases h) trivial
   have hold:=hs.obj l b t1 (by rw[hl];trivial);rw[hl]at hold;obtain⟨c0,ce0,q1,q2,q3,q4⟩:=hold;rw[t3]at q1;cases q1;have hlt0:∀i,i<es.length->i<es0.length/\es.getD i []=es0.getD i []:=λi hi=>by
    have h5:i<(es0.take es.length).length:=by rw[<-hes];exact hi
    simp only[qAB]at h5;refine⟨by omega,?_⟩;rw[hes];simp only[List.getD,qBt,if_pos hi]
   refine .slice b 0 sz (λi j=>c.getD (i*sz+j) undef) (λi hi=>(gM h1 i hi).1) (λ_=>rfl) hcap (by omega) ?_ ?_ ?_ trivial
   ·rintro i j hi hj (hp|⟨l',g1,g2⟩)
    ·exact hs.own l b t1 (by rw[hl];trivial) (hs.pvold _ _ hp)
    simp only[ASt.setObj]at g2;by_cases e:l=l'
    ·subst e;have hll:l<s.heap.length:=by rw[<-hs.klen];exact lt_of_at? t1
     rw[obj?_set_same hll]at g2;exact g2.elim
    rw[obj?_set_other e]at g2;exact e (hs.apart l l' b t1 g1 (by rw[hl];trivial) (ar4 g2))
   ·intro i j hi hj;have h2:i*sz+j<c.size:=qAD (sO (hlt0 i hi).1 hj) q2;simp[World.cell?,t3,Array.getD,h2]
   intro i j hi hj;rw[(hlt0 i hi).2];exact(q4 i j (hlt0 i hi).1 hj).mono hev (dw.refl _) (λx o h _=>abX x o h)
  have hgrow:(∀ad n p,a.eval x=.slice ad n p->p<es.length+ys.length)->∃u κ' w',(execOp a.eval o).run P w=.ok (.value u) w'/\
    Sim C κ' (s.wr (.obj l .dead:: .obj k (.arr sz (es++ys))::au o.dst (.psl k sz (es++ys).length))) (a.put o.dst u) w':=λhroom=>by obtain⟨v,κ',w',h4,h5⟩:=axv (P:=P) (ty:=o.type) f hk1 hrx1 hry1 he h2 hb hlim h1 h3 hroom o.dst;exact⟨v,κ',w',d _ _ h4,h5⟩
  by_cases hroom:p<es.length+ys.length;·exact hgrow λad' n' cap' hu=>by rw[hax]at hu;cases hu;exact hroom
  rcases g with⟨rfl,rfl⟩|⟨b,c,ce,t1,rfl,t3,t4⟩
  ·have hes1:es=[]:=qAI.1 (by omega);have hys:ys=[]:=qAI.1 (by omega);obtain⟨ad2,cap2,e2,_,_⟩:=hry.lu;obtain⟨hu,i,z,hi,hsz,hby,hz,hzs⟩:=mZ he;obtain⟨el2,hu2⟩:=uN h2;obtain⟨hres,hlt⟩:=xO hk1;have hl0:es.length=0:=by rw[hes1];rfl
   have hy0:ys.length=0:=by rw[hys];rfl
   refine⟨.slice none 0 0,κ,w,d _ _ ?_,?_⟩
   ·rw[hax,e2,hl0,hy0];have hfc:(Builtin.firstCells i.size 0 (.slice ad2 0 cap2)).run P w=.ok #[] w:=by cases ad2<;>simp[Builtin.firstCells,loadCells,loadCellsFrom]
    have hsize:∀w:World,(sizeOf e).run P w=.ok i.size w:=λw=>by simp[sizeOf,typeInfo,hi]
    simp[Builtin.append_,run_underlying hu,run_underlying hu2,hsize,Builtin.lenOf,hfc]
   have hsim:Sim C κ ((s.setObj l .dead).setObj k (.arr sz [])) a w:=by
    have hnone:=f.resv k hres;have hne:∀l' b,at? κ l'=some b->k≠l':=λl' b hb e=>by subst e;rw[hnone]at hb;cases hb
    refine f.step (H':=(s.setObj l .dead).heap.set k (.arr sz [])) (Evo.refl _ _) (dw.refl _) (by simp[f.klen]) ?_ (λl' b h1 h2=>.inl ⟨h1,obj?_set_other (hne l' b h1),rfl⟩)
     (λl1 l2 b g1 g2 g3 g4=>f.apart l1 l2 b g1 g2 (by rwa[obj?_set_other (hne l1 b g1)]at g3) (by rwa[obj?_set_other (hne l2 b g2)]at g4)) f.bound ?_ (λ_ _=>rfl) rfl rfl rfl
    ·rintro b o (hb|⟨l',g1,g2⟩) _
     ·exact .inl hb
     rw[obj?_set_other (hne l' b g1)]at g2;exact .inr ⟨l',g1,g2⟩
    intro l' hl';by_cases e:k=l';·subst e;exact hnone
    rw[obj?_set_other e]at hl';exact f.resv l' hl'
   have:=hsim.au o.dst (v:=.psl k sz 0) (u:=.slice none 0 0) (.psl (qAd _) (by omega) ⟨rfl,.inl ⟨rfl,rfl⟩⟩);rw[hes1,hys];exact this
  rw[hax]at d;obtain⟨v,κ',w',h4,h5⟩:=arV (P:=P) (ty:=o.type) hs hk hcap t1 t3 t4 hl hes hry he h2 hlim h1 h3 (by omega) o.dst;exact⟨v,κ',w',d _ _ h4,h5⟩
theorem anT{P o s}{t k e sz by_:Nat}{x y K L l c z}(O:o.op=.makeSlice t x y)(Q:lV P t=some (e,sz,by_))(R:kr P e=some z)(S:bC s.tmps x=.int K l)(T:bC s.tmps y=.int L c)
  (U:bS (obj? s.heap k)=true) (h0:0<=l) (n:l<=c) (V:(by_:Int)*c<=281474976710656) (Z:c<=140737488355328) (p:z.length=sz):xX P o s (s.wr (.obj k (.arr sz (List.replicate l.toNat z))::au o.dst (.psl k sz l.toNat))):=
 nT λC κ a w q=>by
  obtain⟨u,i,v,g,A,B,D,d⟩:=mZ Q;have h:=q.ev x;have b:=q.ev y;rw[S]at h;rw[T]at b;generalize E:a.eval x=ux at h;generalize F:a.eval y=uy at b;have r:=run_make (P:=P) w t e i v u g D K L l c h0 n (by rw[B];exact V) (by omega);have W:z=v.cells.toList.map ofConst:=by
   have:=R;simp only[kr]at this
   grind
  obtain⟨G,f⟩:=ajE q U (es:=List.replicate l.toNat z) (c:=madeCells v.cells (c.toNat*i.size)) (e:=e) (cap:=c.toNat) (sz:=sz)
   (λi g=>by simp at g;simp[g,p]) (by simp;omega) (by simp;omega) (by rw[size_madeCells,A];exact qAd _)
   (λj m M N=>by
    simp at M;have X:(List.replicate l.toNat z).getD j []=z:=by simp[M]
    have H:j*sz+m<c.toNat*i.size:=by
     have:(j+1)*sz<=c.toNat*sz:=qAQ _ (by omega)
     grind
    have I:(j*sz+m)%v.cells.size=m:=by rw[d,qBB,qCS,qCe N]
    have Y:(madeCells v.cells (c.toNat*i.size)).getD (j*sz+m) undef=v.cells.getD m undef:=by
     have J:m<v.cells.size:=by rw[d];exact N
     simp only[madeCells,qAq,Array.getElem?_map,Array.getElem?_range,H,if_true,qAx,I];simp[J]
    rw[X,Y,W];have:(v.cells.toList.map ofConst).getD m .unk=ofConst (v.cells.getD m undef):=by simp_all
    rw[this];exact wz _) o.dst
  refine⟨_,G,_,?_,by simpa using f⟩;cases h;cases b;simp only[execOp,O,E,F];simp[r]
end
end Abs
end Go.Proofs.YtneeginmfjageaaGreat

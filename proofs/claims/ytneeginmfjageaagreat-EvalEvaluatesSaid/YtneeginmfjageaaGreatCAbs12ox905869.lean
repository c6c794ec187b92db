/- Operations on private memory. Conditions: none. -/
import Derived.Laws.MakeOwn
import Derived.Test.YtneeginmfjageaaGreatCAbs1oxd165a9
set_option linter.all false
namespace Go.Proofs.YtneeginmfjageaaGreat
namespace Abs
def zD(P:Program)(o:Oper)(s s':ASt):Prop:=
 ∀(C:Ctx) (e:aS) (a:Act) (w:World),Sim C e s a w->∀(next:Act->World->Prop) (Q:Exit->Act->World->Prop),(∀b c d,Sim C b s' c d->next c d)->o.wp P a w next Q
def Sim.aA{C:Ctx}{κ:aS}{s:ASt}{a:Act}{w:World}(h:Sim C κ s a w)(d:Option Tmp){v:AV}{u:Value}(b:Rel w κ (aH C.ak κ s.heap) v u):Sim C κ (s.wr (aA d v)) (a.put d u) w:=by cases d with|none=>exact h|some n=>exact h.put b
def pI{P:Program}{o:Oper}{s s':ASt}(h:∀C κ a w,Sim C κ s a w->∃u b c,(execOp a.eval o).run P w=.ok (.value u) c/\Sim C b s' (a.put o.dst u) c):zD P o s s':=by
 intro C κ a w d next Q n
 let⟨u,b,c,e,f⟩:=h C κ a w d;unfold Oper.wp;rw[e];exact n _ _ _ f
def YW{P:Program}{o:Oper}{s s':ASt}(h:∀C κ a w,Sim C κ s a w->∃b c,(execOp a.eval o).run P w=.ok .skip c/\Sim C b s' (a.put o.dst undef) c):zD P o s s':=by
 intro C κ a w d next Q n
 let⟨b,c,e,f⟩:=h C κ a w d;unfold Oper.wp;rw[e];exact n _ _ _ f
def lK{w:World}{κ:aS}{pv:bU}:Rel w κ pv (.tup []) undef:=by have:=Rel.tup (w:=w) (κ:=κ) (pv:=pv) (cs:=[]) (vs:=[]) rfl (λj h=>by cases h);simpa[undef]using this
def Zh{P:Program}{o:Oper}{s:ASt}{v:AV}(h:aC P o.op (bL s.tmps)=some v):zD P o s (s.wr (aA o.dst v)):=
 pI λC c a w b=>by let⟨u,d,e⟩:=axL (o:=o) (λx=>b.ev x) h;exact⟨u,c,w,d,b.aA o.dst e⟩
def aBj{P:Program}{o:Oper}{s:ASt}{t:TypeId}{x:Operand}{l off:Nat}{cs:An}{v:AV}(i:o.op=.load t x)(k:bL s.tmps x=.ptr l off)(m:obj? s.heap l=.box cs)(h:kC P t (cs.drop off)=some v):
  zD P o s (s.wr (aA o.dst v)):=
 pI λC d a w f=>by
  have r:=f.ev x;rw[k]at r;let⟨b,e,n⟩:=r.sD;let⟨c,A,B,D,p,q⟩:=f.box n m;let⟨y,u,z⟩:=Jm (P:=P) (w:=w) (κ:=d) (pv:=aH C.ak d s.heap) (b:=b) (off:=off) (cs:=cs.drop off) (λj=>c.getD (off+j) undef)
   (λj g=>p _ (by simp at g;omega)) (λj g=>by rw[getD_drop];exact q _ (by simp at g;omega)) h
  exact⟨y,d,w,by simp[execOp,i,Instr.loadAt,e,Instr.sureAddr,u],f.aA o.dst z⟩
def ak8{P:Program}{o:Oper}{s:ASt}{k:Nat}{b:AObj}{v:AV}(d:dG (obj? s.heap k)=true)(n:b≠ .res)
  (h:∀C κ a w,Sim C κ s a w->∃u ob,(execOp a.eval o).run P w=.ok (.value u) {w with heap:=w.heap.push ob}/\
   qX {w with heap:=w.heap.push ob} (κ.set k (some w.heap.size)) (aH C.ak (κ.set k (some w.heap.size)) (s.heap.set k b)) w.heap.size b/\
   Rel {w with heap:=w.heap.push ob} (κ.set k (some w.heap.size)) (aH C.ak (κ.set k (some w.heap.size)) (s.heap.set k b)) v u):
  zD P o s (s.wr (.obj k b::aA o.dst v)):=
 pI λC κ a w c=>by
  let⟨u,ob,e,f,g⟩:=h C κ a w c;have r:obj? s.heap k=.res:=by revert d;cases obj? s.heap k<;>simp[dG]
  have l:k<s.heap.length:=by apply qAn;intro j;rw[obj?,qAC Cl]at r;cases r
  have i:=c.new (c.resv k r) l ob b n f;exact⟨u,_,_,e,i.aA o.dst g⟩
def akX{C:Ctx}{κ:aS}{s:ASt}{a:Act}{w:World}(hs:Sim C κ s a w){k:Nat}{o:AObj}(r:obj? s.heap k=.res)(t:k<s.heap.length)(ob:Obj){v:AV}{u:Value}(h:Rel w κ (aH C.ak κ s.heap) v u):
  Rel {w with heap:=w.heap.push ob} (κ.set k (some w.heap.size)) (aH C.ak (κ.set k (some w.heap.size)) (s.heap.set k o)) v u:=by
 have f:k<κ.length:=by rw[hs.klen];exact t
 refine h.mono (Evo.push ob) (λl b c=>?_) ?_;·rw[at?_set_other];exact c;intro e;subst e;rw[hs.resv _ r]at c;cases c
 rintro b m (c|⟨l,d,i⟩) j;·exact .inl c
 by_cases g:k=l;·subst g;rw[at?_set_same f]at d;cases d;omega
 rw[at?_set_other g]at d;rw[obj?_set_other g]at i;exact .inr ⟨l,d,i⟩
def yF{H:A6}{k:Nat}(a:dG (obj? H k)=true):obj? H k=.res/\k<H.length:=by
 have h:obj? H k=.res:=by revert a;cases obj? H k<;>simp[dG]
 refine⟨h,?_⟩;apply qAn;intro n;rw[obj?,qAC Cl]at h;cases h
def uZ{w:World}{ob:Obj}:({w with heap:=w.heap.push ob}:World).heap[w.heap.size]? =some ob:=by simp
def aFt{P:Program}{o:Oper}{s:ASt}{t:TypeId}{x:Operand}{k:Nat}{cs:An}(d:o.op=.box t x)(c:dG (obj? s.heap k)=true)(e:eO (bL s.tmps x)=some cs):
  zD P o s (s.wr (.obj k (.box cs)::aA o.dst (.ptr k 0))):=by refine ak8 c cn λC m a w b=>?_;let⟨h,l⟩:=yF c;let⟨f,g⟩:=M6 (b.ev x) e;refine⟨.pointer (some ⟨w.heap.size,0,none⟩),.cells (a.eval x).cells t (0,0),by simp[execOp,d,Instr.box,newVar,newRow],⟨_,_,uZ,f,λj i=>akX b h l _ (g j i)⟩,.ptr ?_⟩;exact at?_set_same (by rw[b.klen];exact l)
def aju{P:Program}{t:TypeId}{z:An}(h:lI P t=some z):∃v:Value,(∀w:World,(zeroValue t).run P w=.ok v w)/\v.cells.size=z.length/\∀(w:World) (κ:aS) (pv:bU) (j:Nat),j<z.length->Rel w κ pv (z.getD j .unk) (v.cells.getD j undef):=by
 unfold lI at h;cases a:P.info? t with|none=>rw[a]at h;cases h|some i=>
  rw[a]at h;simp only[qAb]at h;cases b:i.zero with|none=>rw[b]at h;cases h|some v=>
   rw[b]at h;simp at h;subst h;refine⟨v,λw=>by simp[zeroValue,typeInfo,a,b],by simp,λw κ pv j c=>?_⟩;simp at c;have:(v.cells.toList.map ofConst).getD j .unk=ofConst (v.cells.getD j undef):=by simp[c]
   rw[this];exact xB _
def ayN{P:Program}{o:Oper}{s:ASt}{t:TypeId}{k:Nat}{z:An}(c:o.op=.alloc t)(b:dG (obj? s.heap k)=true)(d:lI P t=some z):
  zD P o s (s.wr (.obj k (.box z)::aA o.dst (.ptr k 0))):=by refine ak8 b cn λC m a w e=>?_;let⟨_,h⟩:=yF b;let⟨v,f,g,i⟩:=aju d;refine⟨.pointer (some ⟨w.heap.size,0,none⟩),.cells v.cells t (0,0),by simp[execOp,c,Instr.alloc,newVar,newRow,f],⟨_,_,uZ,g,λj l=>i _ _ _ j l⟩,.ptr ?_⟩;exact at?_set_same (by rw[e.klen];exact h)
def aui{P:Program}{o:Oper}{s:ASt}{t:TypeId}{k:Nat}(c:o.op=.makeMap t none)(b:dG (obj? s.heap k)=true):
  zD P o s (s.wr (.obj k (.mp [])::aA o.dst (.mapr k))):=by refine ak8 b cn λC f a w d=>?_;let⟨_,h⟩:=yF b;refine⟨.map (some w.heap.size),.map #[] 0,by simp[execOp,c,Instr.makeMap],⟨#[],0,uZ,by simp,⟨by simp,MapKept.stamped_empty 0,by simp⟩,λj e=>by cases e⟩,.mapr ?_⟩;exact at?_set_same (by rw[d.klen];exact h)
def Yw{P:Program}{w:World}{κ:aS}{pv:bU}{b j:Nat}{v:AV}{u y:Value}(h:Rel w κ pv v u)(hs:isScalar v=true)(c:w.cell? ⟨b,j,none⟩=some y)(f:w.frozen? ⟨b,j,none⟩=false):
  (store ⟨b,j,none⟩ u).run P w=.ok () (w.setCell ⟨b,j,none⟩ u):=by cases h<;>simp[isScalar]at hs<;>simp[store,Sem.run,c,f]
def Sim.stores{P:Program}{C:Ctx}{κ:aS}{a:Act}{l b off:Nat}(p:at? κ l=some b):∀(vs:An) (d:List Value) (i:Nat) (s:ASt) (w:World) (cs:An),Sim C κ s a w->obj? s.heap l=.box cs->
  off+i+vs.length<=cs.length->d.length=vs.length->(∀j,j<vs.length->Rel w κ (aH C.ak κ s.heap) (vs.getD j .unk) (d.getD j undef))->vs.all isScalar=true->
  ∃t,(storeCells ⟨b,off,none⟩ d i).run P w=.ok () t/\Sim C κ (s.setObj l (.box (cs.take (off+i)++vs++cs.drop (off+i+vs.length)))) a t:=by
 intro vs
 induction vs with
 |nil=>
  intro d i s w cs m g q f _ _;cases d with
  |nil=>
   refine⟨w,by simp[storeCells],?_⟩;have e:s.setObj l (.box (cs.take (off+i)++[]++cs.drop (off+i+([]:An).length)))=s:=by
    simp only[qAt,qAA,qAS,qDw];let⟨R,H⟩:=s;simp only[ASt.setObj,ASt.mk.injEq,true_and];have h:l<H.length:=by have:=lt_of_at? p;have:=m.klen;simp only at this;omega
    apply qBU;intro n;by_cases E:l=n
    ·subst E;simp only[qCx h];simp only[obj?,qAc h,qAw]at g;rw[qAc h,g]
    rw[qBV E]
   rw[e];exact m
  |cons=>simp at f
 |cons v vs K=>
  intro d i s w cs m g q f F k;cases d with
  |nil=>simp at f
  |cons u d=>
   simp only[qAp]at q f;simp only[qBC,qAa]at k;have y:=F 0 cn;simp only[List.getD,qAG,qAw]at y;let⟨c,S,L,T,M,U⟩:=m.box p g;have h:l<s.heap.length:=by rw[<-m.klen];exact lt_of_at? p
   have z:=m.store p g (j:=off+i) Cl y;have r:(Go.store ⟨b,off+i,none⟩ u).run P w=.ok () (w.setCell ⟨b,off+i,none⟩ u):=Yw y k.1 (M _ Cl) (by simp[World.frozen?,L]);have A:∀x o,aH C.ak κ (s.setObj l (.box (cs.set (off+i) v))).heap x o->aH C.ak κ s.heap x o:=by
    rintro x o (B|⟨G,I,D⟩)
    ·exact .inl B
    by_cases e:l=G
    ·subst e;exact .inr ⟨l,I,by rw[g];trivial⟩
    simp only[ASt.setObj]at D;rw[obj?_set_other e]at D;exact .inr ⟨G,I,D⟩
   let⟨t,N,J⟩:=K d (i+1) _ _ (cs.set (off+i) v) z (by simp only[ASt.setObj];exact obj?_set_same h) Cp Cl
    (λj O=>by
     have:=F (j+1) (by simpa using O);simp only[List.getD,qBp]at this;exact this.mono (Evo.setCell (.inr ⟨l,p,by rw[g];trivial⟩)) (dL.refl _) (λx o B _=>A x o B)) k.2
   refine⟨t,by simp[storeCells,Dr,r,N],?_⟩;have e:(s.setObj l (.box (cs.set (off+i) v))).setObj l (.box ((cs.set (off+i) v).take (off+(i+1))++vs++(cs.set (off+i) v).drop (off+(i+1)+vs.length)))=
     s.setObj l (.box (cs.take (off+i)++(v::vs)++cs.drop (off+i+(v::vs).length))):=by
    simp only[ASt.setObj,qDL];congr 2;congr 1;rw[show off+(i+1)=(off+i)+1 from by omega,List.drop_set,if_pos Cl];have Q:(cs.set (off+i) v).take (off+i+1)=cs.take (off+i)++[v]:=by
     rw[qBX Cp,qDJ,qBJ Cp];simp
    rw[Q];simp only[qAm,qCF,qAp];congr 3;omega
   rw[e]at J;exact J
def azM{P:Program}{o:Oper}{s:ASt}{t:TypeId}{x y:Operand}{l off:Nat}{cs vs:An}(g:o.op=.store t x y)(i:bL s.tmps x=.ptr l off)(k:eO (bL s.tmps y)=some vs)(m:obj? s.heap l=.box cs)
  (n:sizeT P t=some vs.length) (p:off+vs.length<=cs.length) (h:vs.all isScalar=true):
  zD P o s (s.wr (.obj l (.box (cs.take off++vs++cs.drop (off+vs.length)))::aA o.dst (.tup []))):=
 YW λC q a w c=>by
  have r:=c.ev x;rw[i]at r;let⟨b,e,u⟩:=r.sD;let⟨d,v⟩:=M6 (c.ev y) k;let⟨z,A,f⟩:=Sim.stores (P:=P) (off:=off) u vs (a.eval y).cells.toList 0 s w cs c m Cl (by simpa using d)
   (λj B=>by have:=v j B;simpa[qAq,List.getD]using this) h
  refine⟨q,z,?_,?_⟩;·simp[execOp,g,Instr.storeAt,e,Instr.sureAddr,storeVar,pJ n,d,A]
  simp only[qAS]at f;exact f.aA o.dst lK
def Sim.kill{C:Ctx}{κ:aS}{s:ASt}{a:Act}{w:World}(h:Sim C κ s a w)(l:Nat):Sim C κ (s.setObj l .dead) a w:=by
 have hob:∀l',live (obj? (s.heap.set l .dead) l')→l≠l'∧obj? (s.heap.set l .dead) l'=obj? s.heap l':=fun l' hl'=>by
  by_cases e:l=l'
  ·subst e;by_cases hlt:l<s.heap.length
   ·rw[obj?_set_same hlt]at hl';exact hl'.elim
   rw[obj?,qAC Cp]at hl';exact hl'.elim
  exact⟨e,obj?_set_other e⟩
 refine h.step (H':=s.heap.set l .dead) (Evo.refl _ _) (dL.refl _) (by simp[h.klen]) ?_ (fun l' b h1 h2=>.inl ⟨h1,(hob l' h2).2,rfl⟩)
  (fun l1 l2 b h1 h2 h3 h4=>h.apart l1 l2 b h1 h2 (by rw[←(hob l1 h3).2];exact h3) (by rw[←(hob l2 h4).2];exact h4)) h.bound ?_ (fun _ _=>rfl) rfl rfl rfl
 ·rintro b o (hb|⟨l',h1,h2⟩) _
  ·exact .inl hb
  have hl':live (obj? (s.heap.set l .dead) l'):=by revert h2;cases obj? (s.heap.set l .dead) l'<;>simp[Aw,live]
  rw[(hob l' hl').2]at h2;exact .inr ⟨l',h1,h2⟩
 intro l' hl';by_cases e:l=l'
 ·subst e;by_cases hlt:l<s.heap.length
  ·rw[obj?_set_same hlt]at hl';cases hl'
  rw[obj?,qAC Cp]at hl';cases hl'
 rw[obj?_set_other e]at hl';exact h.resv l' hl'
section
variable {P:Program}{w:World}{κ:aS}{pv:bU}
def qp{es:List An}{tag:Tag}{u:Value}{sz:Nat}(h:Rel w κ pv (.slice es tag) u)(z:∀i,i<es.length->(es.getD i []).length=sz):
  ∃r,(Builtin.firstCells sz es.length u).run P w=.ok r w/\r.size=es.length*sz/\∀i j,i<es.length->j<sz->Rel w κ pv ((es.getD i []).getD j .unk) (r.getD (i*sz+j) undef):=by
 cases h with|@slice _ _ a t b o s f v x D y E A F G=>
  by_cases n:es=[];·subst n;cases a<;>simp[Builtin.firstCells,loadCells,loadCellsFrom]
  have B:=x n;subst B;have p:0<es.length:=qCn.2 n;have g:s=sz:=by rw[<-v 0 p];exact z 0 p
  subst g;have c:=run_loadCellsFrom (P:=P) (w:=w) (b:=b) (off:=o) (λm=>f (m/s) (m%s)) (es.length*s) 0 #[] (λm l=>by have q:0<s:=qCc (λe=>by subst e;simp at l);have k:m/s<es.length:=(qCG q).2 l;have d:m%s<s:=qDj _ q;have:=A (m/s) (m%s) k d;rw[qBK,qCL]at this;simpa using this)
  refine⟨((List.range (es.length*s)).map λm=>f (m/s) (m%s)).toArray,?_,by simp,λi j k d=>?_⟩;·simpa[Builtin.firstCells,loadCells]using c
  have C:i*s+j<es.length*s:=by
   have:(i+1)*s<=es.length*s:=qAQ _ k
   grind
  have H:(i*s+j)/s=i:=by rw[qBK,Nat.mul_add_div Cl,Nat.div_eq_of_lt d];omega
  have I:(i*s+j)%s=j:=by rw[qBK,qDr,qCl d]
  simp_all
def oD{t e sz b:Nat}(h:mX P t=some (e,sz,b)):P.underlying t=some (.slice e)/\∃i z,P.info? e=some i/\i.size=sz/\i.bytes=b/\i.zero=some z/\z.cells.size=sz:=by
 unfold mX at h;split at h;·rename_i c u;cases a:P.info? c with|none=>rw[a]at h;cases h|some i=>
   rw[a]at h;simp only[qAb]at h;split at h;·simp_all
   cases h
 cases h
def nextslicecap_le(need cap:Nat)(h:cap<need):Builtin.nextslicecap need cap<=2*need:=by
 have g:∀r c,c<=2*need->256<=c->Builtin.growBy need r c<=2*need:=by
  intro r
  induction r with|zero=>intro c a _;simpa[Builtin.growBy]using a|succ r i=>
   simp only[Builtin.growBy]
   grind
 unfold Builtin.nextslicecap
 grind
def vV{t:Nat}(h:aP.isSliceT P t=true):∃e,P.underlying t=some (.slice e):=by unfold aP.isSliceT at h;split at h<;>first|exact⟨_,by assumption⟩|cases h
def run_append_grow{t g e sz b ty:Nat}{a:Option Addr}{len cap n:Nat}{u2:Value}{old new:Array Value}{z:Value}(k:mX P t=some (e,sz,b))(h2:aP.isSliceT P g=true)
  (m:Builtin.lenOf u2=pure n) (h:cap<len+n) (B:(len+n)*b<=140737488355328) (l:len+n<=140737488355328) (q:(zeroValue e).run P w.drew=.ok z w.drew)
  (o:(Builtin.firstCells sz len (.slice a len cap)).run P w.drew=.ok old w.drew)
  (c:(Builtin.firstCells sz n u2).run P w.drew=.ok new w.drew):
  ∃d,len+n<=d/\(Builtin.append_ #[t,g] ty #[.slice a len cap,u2]).run P w=
   .ok (.slice (some ⟨w.heap.size,0,none⟩) (len+n) d) {w.drew with heap:=w.heap.push (.cells (old++new++Builtin.zeroCells z.cells (d - (len+n))) e (0,0))}:=by
 obtain⟨r,i,C,j,rfl,rfl,v,x⟩:=oD k;let⟨D,u⟩:=vV h2;have p:Builtin.nextslicecap (len+n) cap*i.bytes<=281474976710656:=by
  have:=qAQ i.bytes (nextslicecap_le (len+n) cap h);have e:2*(len+n)*i.bytes=2*((len+n)*i.bytes):=by rw[Nat.mul_assoc]
  omega
 refine⟨(len+n)+(w.tape w.drawn (.appendCap (len+n) cap e))%(2^63 - (len+n)),by omega,?_⟩;have s:∀w:World,(sizeOf e).run P w=.ok i.size w:=λw=>by simp[sizeOf,typeInfo,j]
 have f:∀w:World,(typeInfo e).run P w=.ok i w:=λw=>by simp[typeInfo,j]
 have y:¬((len+n:Nat):Int)>IntKind.i64.max:=by simp[IntKind.max,IntKind.signed,IntKind.bits];omega
 simp only[Builtin.append_];simp[run_underlying r,run_underlying u,s,f,m,h,Question.forced,Question.cut];rw[if_neg Cl];rw[if_neg (by intro A;exact y A.1)];rw[if_neg Cl];simp[o,c,q,newRow];rfl
end
def iT{sz:Nat}{es:List An}(h:es.all (dH sz)=true)(i:Nat)(hi:i<es.length):(es.getD i []).length=sz/\(es.getD i []).all isScalar=true:=by
 have:=qAP.1 h es[i] (qAO hi);simp only[dH]at this
 grind
def uT{i j n sz:Nat}(hi:i<n)(h:j<sz):i*sz+j<n*sz:=by
 have:(i+1)*sz<=n*sz:=qAQ _ hi
 grind
def aqU{C:Ctx}{κ:aS}{s:ASt}{a:Act}{w:World}(hs:Sim C κ s a w){k:Nat}(r:obj? s.heap k=.res)(t:k<s.heap.length){es:List An}{c:Array Value}{e:TypeId}{cap sz:Nat}
  (n:∀i,i<es.length->(es.getD i []).length=sz) (h:es.length<=cap) (q:es.length<=140737488355328) (o:cap*sz<=c.size)
  (u:∀i j,i<es.length->j<sz->Rel w κ (aH C.ak κ s.heap) ((es.getD i []).getD j .unk) (c.getD (i*sz+j) undef)):
  Rel {w with heap:=w.heap.push (.cells c e (0,0))} (κ.set k (some w.heap.size)) (aH C.ak (κ.set k (some w.heap.size)) (s.heap.set k (.tip (es.length*sz)))) (.slice es (.tip k sz)) (.slice (some ⟨w.heap.size,0,none⟩) es.length cap):=by
 have g:k<κ.length:=by rw[hs.klen];exact t
 refine .slice w.heap.size 0 sz (λi j=>c.getD (i*sz+j) undef) n (λ_=>rfl) h Cl ?_ ?_ ?_ ⟨rfl,.inr ⟨w.heap.size,c,e,at?_set_same g,rfl,uZ,o⟩⟩
 ·rintro i j b d (v|⟨l,f,m⟩)
  ·have:=hs.oldlt _ (hs.pvold _ _ v);have:=hs.size;omega
  by_cases p:k=l
  ·subst p;rw[obj?_set_same t]at m;simp only[Aw]at m;have:=uT b d;omega
  rw[at?_set_other p]at f;have:=hs.bound _ _ f;omega
 ·intro i j b d;have f:=uT b d;have m:i*sz+j<c.size:=qAB f (qAs (qAQ _ h) o)
  simp_all
 intro i j b d;exact akX hs r t _ (u i j b d)
def acy{P:Program}{C:Ctx}{κ:aS}{s:ASt}{a:Act}{w:World}(hs:Sim C κ s a w){k:Nat}(n:dG (obj? s.heap k)=true){es:List An}{c:Array Value}{e:TypeId}{cap sz:Nat}
  (l:∀i,i<es.length->(es.getD i []).length=sz) (h:es.length<=cap) (b:es.length<=140737488355328) (g:cap*sz<=c.size)
  (o:∀i j,i<es.length->j<sz->Rel w κ (aH C.ak κ s.heap) ((es.getD i []).getD j .unk) (c.getD (i*sz+j) undef)) (d:Option Tmp):
  ∃f,Sim C f (s.wr (.obj k (.tip (es.length*sz))::aA d (.slice es (.tip k sz)))) (a.put d (.slice (some ⟨w.heap.size,0,none⟩) es.length cap)) {w with heap:=w.heap.push (.cells c e (0,0))}:=by let⟨r,t⟩:=yF n;have m:=hs.new (hs.resv k r) t (.cells c e (0,0)) (.tip (es.length*sz)) cn ⟨c,e,uZ,qAs (qAQ _ h) g⟩;exact⟨_,m.aA d (aqU hs r t l h b g o)⟩
def size_zeroCells(z:Array Value)(n:Nat):(Builtin.zeroCells z n).size=n*z.size:=by simp[Builtin.zeroCells]
def ap1{P:Program}{C:Ctx}{κ:aS}{s:ASt}{a:Act}{w:World}(hs:Sim C κ s a w){k:Nat}(Z:dG (obj? s.heap k)=true){t R e sz y ty:Nat}{es ys:List An}{tag A:Tag}{u u2:Value}
  (S:Rel w κ (aH C.ak κ s.heap) (.slice es tag) u) (B:Rel w κ (aH C.ak κ s.heap) (.slice ys A) u2) (T:mX P t=some (e,sz,y)) (h2:aP.isSliceT P R=true)
  (hb:(es.length+ys.length)*y<=140737488355328) (D:es.length+ys.length<=140737488355328) (U:es.all (dH sz)=true) (V:ys.all (dH sz)=true)
  (r:∀J n cap,u=.slice J n cap->cap<es.length+ys.length) (d:Option Tmp):
  ∃v p W,(Builtin.append_ #[t,R] ty #[u,u2]).run P w=.ok v W/\Sim C p (s.wr (.obj k (.tip ((es++ys).length*sz))::aA d (.slice (es++ys) (.tip k sz)))) (a.put d v) W:=by
 obtain⟨J,cap,rfl,X,_⟩:=S.mY;let⟨ad2,Y,E,_,_⟩:=B.mY;have L:Sim C κ s a w.drew:=hs.sameHeap rfl rfl rfl rfl;have F:Evo (aH C.ak κ s.heap) w w.drew:=Evo.of_heap rfl;have M:=S.mono F (dL.refl _) (λ_ _ h _=>h);have G:=B.mono F (dL.refl _) (λ_ _ h _=>h);let⟨o,o1,o2,o3⟩:=qp (P:=P) M (λi g=>(iT U i g).1);let⟨b,n1,n2,n3⟩:=qp (P:=P) G (λi g=>(iT V i g).1);let⟨_,i,z,g,hsz,hby,hz,N⟩:=oD T;have O:=r J es.length cap rfl;let⟨x,hnc,H⟩:=run_append_grow (P:=P) (w:=w) (ty:=ty) (a:=J) (len:=es.length) (cap:=cap) (n:=ys.length) (u2:=u2) (old:=o) (new:=b) (z:=z) T h2 (by subst E;rfl) O hb D
  (by simp[zeroValue,typeInfo,g,hz]) o1 n1
 have f:(es++ys).length=es.length+ys.length:=by simp
 have q:(o++b++Builtin.zeroCells z.cells (x - (es.length+ys.length))).size=x*sz:=by
  simp only[qCh,o2,n2,size_zeroCells,N];rw[<-qAU,<-qAU]
  grind
 let⟨p,m⟩:=acy (P:=P) L Z (es:=es++ys) (c:=o++b++Builtin.zeroCells z.cells (x - (es.length+ys.length))) (e:=e) (cap:=x) (sz:=sz)
  (λi g=>by
   rw[f]at g;by_cases l:i<es.length
   ·have:(es++ys).getD i []=es.getD i []:=by simp[List.getD,qAg l]
    rw[this];exact(iT U i l).1
   have:(es++ys).getD i []=ys.getD (i - es.length) []:=by simp[List.getD,qAl (qBd l)]
   rw[this];exact(iT V _ Cl).1)
  Cl Cl (qBm q.symm)
  (λi j g K=>by
   rw[f]at g;by_cases l:i<es.length
   ·have Q:(es++ys).getD i []=es.getD i []:=by simp[List.getD,qAg l]
    have E:(o++b++Builtin.zeroCells z.cells (x - (es.length+ys.length))).getD (i*sz+j) undef=o.getD (i*sz+j) undef:=by
     have:=uT l K;simp only[qAq];rw[Array.append_assoc,qBT Cl]
    rw[Q,E];exact o3 i j l K
   have Q:(es++ys).getD i []=ys.getD (i - es.length) []:=by simp[List.getD,qAl (qBd l)]
   have I:i - es.length<ys.length:=by omega
   have E:(o++b++Builtin.zeroCells z.cells (x - (es.length+ys.length))).getD (i*sz+j) undef=b.getD ((i - es.length)*sz+j) undef:=by
    have h4:=uT I K;have h5:i*sz=es.length*sz+(i - es.length)*sz:=by rw[<-qAU];congr 1;omega
    simp only[qAq];rw[qBT (by rw[qCh];omega),qBQ Cl];congr 2;omega
   rw[Q,E];exact n3 _ j I K) d
 refine⟨_,p,_,H,?_⟩;rw[f]at m|-;exact m
def aml{P:Program}{o:Oper}{s:ASt}{args:Array Operand}{argTypes:Array TypeId}{x y:Operand}{t N k e sz D:Nat}{ys:List An}{tag:Tag}(ho:o.op=.call {callee:=.builtin .append,args,argTypes})
  (ha:args.toList=[x,y]) (ht:argTypes.toList=[t,N]) (V:mX P t=some (e,sz,D)) (h2:aP.isSliceT P N=true) (hx:bL s.tmps x=.slice [] .nils) (hy:bL s.tmps y=.slice ys tag)
  (W:dG (obj? s.heap k)=true) (B:ys.length*D<=140737488355328) (E:ys.length<=140737488355328) (h3:ys.all (dH sz)=true):
  zD P o s (s.wr (.obj k (.tip (ys.length*sz))::aA o.dst (.slice ys (.tip k sz)))):=
 pI λC Q a w g=>by
  have ea:args=#[x,y]:=by rw[<-qBl (xs:=args),ha]
  have et:argTypes=#[t,N]:=by rw[<-qBl (xs:=argTypes),ht]
  subst ea et;have r:=g.ev x;rw[hx]at r;have q:=g.ev y;rw[hy]at q;have c:∀(v:Value) (F:World),(Builtin.append_ #[t,N] o.type #[a.eval x,a.eval y]).run P w=.ok v F->(execOp a.eval o).run P w=.ok (.value v) F:=λv F h=>by
   simp[execOp,ho,resolve,invoke,builtin,h]
  have p:a.eval x=.slice none 0 0:=by
   generalize a.eval x=u at r;cases r with
   |slice b off sz' f _ _ _ _ _ _ _ R=>obtain⟨rfl,rfl⟩:=R;rfl
  by_cases G:ys=[]
  ·subst G;let⟨H,I,e2,_,_⟩:=q.mY;obtain⟨O,i,z,hi,rfl,rfl,hz,hzs⟩:=oD V;let⟨el2,S⟩:=vV h2;let⟨J,hlt⟩:=yF W;refine⟨.slice none 0 0,Q,w,c _ _ ?_,?_⟩
   ·rw[p,e2];have T:(Builtin.firstCells i.size 0 (.slice H 0 I)).run P w=.ok #[] w:=by cases H<;>simp[Builtin.firstCells,loadCells,loadCellsFrom]
    have A:∀w:World,(sizeOf e).run P w=.ok i.size w:=λw=>by simp[sizeOf,typeInfo,hi]
    simp only[qAA]at *;simp[Builtin.append_,run_underlying O,run_underlying S,A,Builtin.lenOf,T]
   have K:Sim C Q (s.setObj k (.tip (([]:List An).length*i.size))) a w:=by
    simp only[qAA,qDM];have d:=g.resv k J;have m:∀l b,at? Q l=some b->k≠l:=λl b B e=>by subst e;rw[d]at B;cases B
    refine g.step (H':=s.heap.set k (.tip 0)) (Evo.refl _ _) (dL.refl _) (by simp[g.klen]) ?_ (λl b X h2=>.inl ⟨X,obj?_set_other (m l b X),rfl⟩)
     (λY Z b L M g3 g4=>g.apart Y Z b L M (by rwa[obj?_set_other (m Y b L)]at g3) (by rwa[obj?_set_other (m Z b M)]at g4)) g.bound ?_ (λ_ _=>rfl) rfl rfl rfl
    ·rintro b o (B|⟨l,L,M⟩) _
     ·exact .inl B
     rw[obj?_set_other (m l b L)]at M;exact .inr ⟨l,L,M⟩
    intro l hl;by_cases e:k=l
    ·subst e;exact d
    rw[obj?_set_other e]at hl;exact g.resv l hl
   refine K.aA o.dst ?_;exact .slice (es:=[]) 0 0 i.size (λ_ _=>undef) (λi h=>by cases h) (λh=>(h rfl).elim) (qAZ _) cn (λi j h=>by cases h) (λi j h=>by cases h) (λi j h=>by cases h) ⟨rfl,.inl ⟨rfl,rfl⟩⟩
  let⟨v,U,F,h4,h5⟩:=ap1 (P:=P) (ty:=o.type) g W r q V h2 (by simpa using B) (by simpa using E) cn h3 (λad n cap O=>by
   rw[p]at O;cases O;have:=qCn.2 G;simp;omega) o.dst
  exact⟨v,U,F,c _ _ h4,by simpa using h5⟩
def amm:Value->Bool| .agg _=>false| .tuple _=>false|_=>true
def arD{w:World}{κ:aS}{pv:bU}{v:AV}{u:Value}(h:Rel w κ pv v u)(hs:isScalar v=true):amm u=true:=by cases h<;>simp[isScalar]at hs<;>rfl
def axu{P:Program}{w:World}{b j:Nat}{u y:Value}(hs:amm u=true)(h:w.cell? ⟨b,j,none⟩=some y)(f:w.frozen? ⟨b,j,none⟩=false):
  (Go.store ⟨b,j,none⟩ u).run P w=.ok () (w.setCell ⟨b,j,none⟩ u):=by cases u<;>simp[amm]at hs<;>simp[Go.store,Sem.run,h,f]
def WO{P:Program}{b off:Nat}{e:TypeId}:∀(s:List Value) (i:Nat) (w:World) (c:Array Value),w.heap[b]? =some (Obj.cells c e (0,0))->off+i+s.length<=c.size->s.all amm=true->
  ∃a d,(storeCells ⟨b,off,none⟩ s i).run P w=.ok () a/\a.heap[b]? =some (Obj.cells d e (0,0))/\d.size=c.size/\
   (∀m,d.getD m undef=if off+i<=m/\m<off+i+s.length then s.getD (m - (off+i)) undef else c.getD m undef)/\
   (∀x:Nat,x≠b->a.heap[x]? =w.heap[x]?)/\a.heap.size=w.heap.size/\a.os=w.os/\a.tape=w.tape/\a.output=w.output:=by
 intro s
 induction s with
 |nil=>
  intro i w c f _ _;refine⟨w,c,by simp[storeCells],f,rfl,λm=>?_,λ_ _=>rfl,rfl,rfl,rfl,rfl⟩
  grind
 |cons u s o=>
  intro i w c f g h;simp only[qAp]at g;simp only[qBC,qAa]at h;have l:off+i<c.size:=by omega
  have r:(Go.store ⟨b,off+i,none⟩ u).run P w=.ok () (w.setCell ⟨b,off+i,none⟩ u):=axu h.1 (y:=c[off+i]) (by simp[World.cell?,f,l]) (by simp[World.frozen?,f]);let⟨a,d,p,q,t,v,z,A,B,C,D⟩:=o (i+1) _ (c.setIfInBounds (off+i) u) (BZ (j:=off+i) (u:=u) f) Cp h.2;refine⟨a,d,by simp[storeCells,Dr,r,p],q,by simpa using t,λm=>?_,λx k=>by rw[z x k,sH k],by simpa using A,B,C,D⟩;rw[v m];by_cases n:off+(i+1)<=m/\m<off+(i+1)+s.length
  ·rw[if_pos n,if_pos Cp];rw[show m - (off+i)=(m - (off+(i+1)))+1 from by omega];simp[List.getD]
  rw[if_neg n];by_cases E:m=off+i
  ·subst E;rw[sW l,if_pos cn];simp[List.getD]
  rw[nQ Cl,if_neg Cp]
def atO{P:Program}{C:Ctx}{κ:aS}{s:ASt}{a:Act}{w:World}(hs:Sim C κ s a w){k l b:Nat}(hk:dG (obj? s.heap k)=true){e sz by_ t t2 ty:Nat}{es ys:List An}{tag2:Tag}{cap:Nat}{u2:Value}{c:Array Value}{ce:TypeId}
  (hu:Rel w κ (aH C.ak κ s.heap) (.slice es (.tip l sz)) (.slice (some ⟨b,0,none⟩) es.length cap)) (E:at? κ l=some b) (S:w.heap[b]? =some (Obj.cells c ce (0,0))) (hcs:cap*sz<=c.size)
  (I:obj? s.heap l=.tip (es.length*sz)) (hu2:Rel w κ (aH C.ak κ s.heap) (.slice ys tag2) u2) (he:mX P t=some (e,sz,by_)) (h2:aP.isSliceT P t2=true)
  (hlim:es.length+ys.length<=140737488355328) (h1:es.all (dH sz)=true) (h3:ys.all (dH sz)=true) (B:es.length+ys.length<=cap) (d:Option Tmp):
  ∃v κ' W,(Builtin.append_ #[t,t2] ty #[.slice (some ⟨b,0,none⟩) es.length cap,u2]).run P w=.ok v W/\
   Sim C κ' (s.wr (.obj l .dead:: .obj k (.tip ((es++ys).length*sz))::aA d (.slice (es++ys) (.tip k sz)))) (a.put d v) W:=by
 let⟨hres,u⟩:=yF hk;have F:k<κ.length:=by rw[hs.klen];exact u
 have n:(es++ys).length=es.length+ys.length:=by simp
 let⟨ad2,cap2,Q,_,_⟩:=hu2.mY;let⟨G,n1,n2,n3⟩:=qp (P:=P) hu2 (λi H=>(iT h3 i H).1);let⟨hut,i,z,H,hsz,hby,hz,hzs⟩:=oD he;let⟨el2,hu2t⟩:=vV h2;have hle:es.length*sz+ys.length*sz<=c.size:=by rw[<-qAU];exact qAs (qAQ _ B) hcs
 have hone:G.toList.all amm=true:=by
  rw[qAP];intro x T;obtain⟨m,hm,rfl⟩:=qBy T;have hm':m<ys.length*sz:=by rw[<-n2];simpa using hm
  have hzp:0<sz:=qCc (λe=>by subst e;simp at hm');have J:m/sz<ys.length:=(qCG hzp).2 hm';have hj':m%sz<sz:=qDj _ hzp;have hr:=n3 (m/sz) (m%sz) J hj';rw[qBK,qCL]at hr;have hg:G.getD m undef=G.toList[m]:=by
   have hms:m<G.size:=by simpa using hm
   simp[Array.getD,hms]
  rw[hg]at hr;refine arD hr ?_;let⟨q1,q2⟩:=iT h3 (m/sz) J;generalize ys.getD (m/sz) []=ee at q1 q2|-;have hlt':m%sz<ee.length:=by omega
  rw[List.getD,qAc hlt',qAw];exact qAP.1 q2 _ (qAO _)
 let⟨W,X,r1,r2,r3,r4,r5,r6,r7,r8,r9⟩:=WO (P:=P) (b:=b) (off:=es.length*sz) (e:=ce) G.toList 0 w c S (by simp[n2];omega) hone;have hrun:(Builtin.append_ #[t,t2] ty #[.slice (some ⟨b,0,none⟩) es.length cap,u2]).run P w=.ok (.slice (some ⟨b,0,none⟩) (es.length+ys.length) cap) W:=by
  have hsize:∀w:World,(sizeOf e).run P w=.ok sz w:=λw=>by simp[sizeOf,typeInfo,H,hsz]
  have hadd:Addr.add ⟨b,0,none⟩ (es.length*sz)=⟨b,es.length*sz,none⟩:=by rw[Dr];simp
  have hn:Builtin.lenOf u2=pure ys.length:=by subst Q;rfl
  simp[Builtin.append_,run_underlying hut,run_underlying hu2t,hsize,hn,B,n1,hadd,r1]
 -- the new state
 have Y:∀o,o<es.length*sz->X.getD o undef=c.getD o undef:=λo ho=>by rw[r4 o,if_neg Cl]
 have K:Evo (aH C.ak κ s.heap) w W:=by
  refine⟨by omega,λx o y hn hc=>?_,λx d e' z' T=>?_⟩
  ·by_cases L:x=b
   ·subst L;have ho:o<es.length*sz:=Nat.lt_of_not_le λhle'=>hn (.inr ⟨l,E,by rw[I];exact hle'⟩);have h5:=Y o ho;have hoc:o<c.size:=by omega
    have Z:o<X.size:=by omega
    simp only[World.cell?,S,Option.isSome_none,qBR,if_false,qBt hoc]at hc;simp only[World.cell?,r2,Option.isSome_none,qBR,if_false,qBt Z];simp only[Array.getD,hoc,Z,dif_pos]at h5;rw[<-hc];exact congrArg some h5
   simpa[World.cell?,r5 x L]using hc
  by_cases L:x=b
  ·subst L;rw[S]at T;cases T;exact⟨X,r2,r3⟩
  exact⟨d,by rw[r5 x L];exact T,rfl⟩
 have hkn:∀x y,at? κ x=some y->k≠x:=λx y M e=>by subst e;rw[hs.resv _ hres]at M;cases M
 have hlk':l≠k:=(hkn l b E).symm;have hll:l<s.heap.length:=by rw[<-hs.klen];exact lt_of_at? E
 have N:dL κ (κ.set k (some b)):=λx y M=>by rw[at?_set_other (hkn x y M)];exact M
 let U:=(s.heap.set l .dead).set k (.tip ((es++ys).length*sz))
 have D:obj? U k=.tip ((es++ys).length*sz):=obj?_set_same (by simpa using u);have A:obj? U l=.dead:=by show obj? ((s.heap.set l .dead).set k _) l=_;rw[obj?_set_other hlk'.symm];exact obj?_set_same hll
 have p:∀x,x≠k->x≠l->obj? U x=obj? s.heap x:=λx h1 h2=>by show obj? ((s.heap.set l .dead).set k _) x=_;rw[obj?_set_other h1.symm,obj?_set_other h2.symm]
 have hp:∀x o,aH C.ak (κ.set k (some b)) U x o->x<w.heap.size->aH C.ak κ s.heap x o:=by
  rintro x o (T|⟨r,g,q⟩) _
  ·exact .inl T
  by_cases f:r=k
  ·subst f;rw[at?_set_same F]at g;cases g;rw[D]at q;refine .inr ⟨l,E,?_⟩;rw[I];simp only[Aw]at q|-;rw[n,qAU]at q;omega
  by_cases h:r=l
  ·subst h;rw[A]at q;exact q.elim
  rw[at?_set_other (qBo f)]at g;rw[p r f h]at q;exact .inr ⟨r,g,q⟩
 have hsim:Sim C (κ.set k (some b)) {s with heap:=U} a W:=by
  refine hs.step (H':=U) K N (by simp[U,hs.klen]) hp ?_ ?_ ?_ ?_ ?_ r7 r8 r9
  ·intro r V g q;by_cases f:r=k
   ·subst f;rw[at?_set_same F]at g;cases g;refine .inr ⟨by rw[r6];exact hs.bound l b E,hs.own l b E (by rw[I];trivial),?_⟩;rw[D];exact⟨X,ce,r2,by rw[r3,n,qAU];exact hle⟩
   by_cases h:r=l
   ·subst h;rw[A]at q;exact q.elim
   rw[at?_set_other (qBo f)]at g;rw[p r f h]at q|-;refine .inl ⟨g,rfl,r5 V λeb=>?_⟩;subst eb;exact h (hs.apart r l V g E q (by rw[I];trivial))
  ·intro l1 l2 V g q g3 g4;by_cases R:l1=k<;>by_cases Q:l2=k
   ·rw[R,Q]
   ·subst R;rw[at?_set_same F]at g;cases g;rw[at?_set_other (qBo Q)]at q;by_cases h:l2=l
    ·subst h;rw[A]at g4;exact g4.elim
    rw[p l2 Q h]at g4;exact(h (hs.apart l2 l b q E g4 (by rw[I];trivial))).elim
   ·subst Q;rw[at?_set_same F]at q;cases q;rw[at?_set_other (qBo R)]at g;by_cases h:l1=l
    ·subst h;rw[A]at g3;exact g3.elim
    rw[p l1 R h]at g3;exact(h (hs.apart l1 l b g E g3 (by rw[I];trivial))).elim
   rw[at?_set_other (qBo R)]at g;rw[at?_set_other (qBo Q)]at q;refine hs.apart l1 l2 V g q ?_ ?_
   ·by_cases h:l1=l
    ·subst h;rw[I];trivial
    rwa[p l1 R h]at g3
   by_cases h:l2=l
   ·subst h;rw[I];trivial
   rwa[p l2 Q h]at g4
  ·intro r V g;rw[r6];by_cases f:r=k
   ·subst f;rw[at?_set_same F]at g;cases g;exact hs.bound l b E
   rw[at?_set_other (qBo f)]at g;exact hs.bound r V g
  ·intro r g;by_cases f:r=k
   ·subst f;rw[D]at g;cases g
   by_cases h:r=l
   ·subst h;rw[A]at g;cases g
   rw[p r f h]at g;rw[at?_set_other (qBo f)];exact hs.resv r g
  intro V hb';refine r5 V λeb=>?_;subst eb;exact hs.own l V E (by rw[I];trivial) hb'
 refine⟨_,κ.set k (some b),W,hrun,?_⟩;refine hsim.aA d ?_;have hrel:=Rel.slice (w:=W) (κ:=κ.set k (some b)) (pv:=aH C.ak (κ.set k (some b)) U) (es:=es++ys) (tag:=.tip k sz) (a:=some ⟨b,0,none⟩) (cap:=cap) b 0 sz (λi j=>X.getD (i*sz+j) undef)
  (λi H=>by
   rw[n]at H;by_cases u:i<es.length
   ·have:(es++ys).getD i []=es.getD i []:=by simp[List.getD,qAg u]
    rw[this];exact(iT h1 i u).1
   have:(es++ys).getD i []=ys.getD (i - es.length) []:=by simp[List.getD,qAl (qBd u)]
   rw[this];exact(iT h3 _ Cl).1)
  (λ_=>rfl) (by rw[n];exact B) (by rw[n];omega)
  (λi j H hj hpv=>by
   have O:=uT H hj;rcases hpv with T|⟨r,g,q⟩
   ·exact hs.own l b E (by rw[I];trivial) (hs.pvold _ _ T)
   by_cases f:r=k
   ·subst f;rw[D]at q;simp only[Aw]at q;omega
   by_cases h:r=l
   ·subst h;rw[A]at q;exact q.elim
   rw[at?_set_other (qBo f)]at g;rw[p r f h]at q;have hlv:live (obj? s.heap r):=by revert q;cases obj? s.heap r<;>simp[Aw,live]
   exact h (hs.apart r l b g E hlv (by rw[I];trivial)))
  (λi j H hj=>by
   have O:=uT H hj;rw[n,qAU]at O;have:i*sz+j<X.size:=by omega
   simp[World.cell?,r2,Array.getD,this])
  (λi j H hj=>by
   rw[n]at H;by_cases u:i<es.length
   ·have R:(es++ys).getD i []=es.getD i []:=by simp[List.getD,qAg u]
    have O:=uT u hj;rw[R,Y _ O];let⟨old,o1,o2,o3⟩:=qp (P:=P) hu (λi H=>(iT h1 i H).1);have:=o3 i j u hj;have eo:old.getD (i*sz+j) undef=c.getD (i*sz+j) undef:=by
     have hrun2:=run_loadCellsFrom (P:=P) (w:=w) (b:=b) (off:=0) (λm=>c.getD m undef) (es.length*sz) 0 #[] (λm hm=>by
      have:m<c.size:=by omega
      simp[World.cell?,S,Array.getD,this])
     simp only[Builtin.firstCells,loadCells]at o1;rw[hrun2]at o1;simp only[Result.ok.injEq]at o1;rw[<-o1.1];simp[Array.getD,O]
    rw[eo]at this;exact this.mono K N hp
   have R:(es++ys).getD i []=ys.getD (i - es.length) []:=by simp[List.getD,qAl (qBd u)]
   have J:i - es.length<ys.length:=by omega
   have h4:=uT J hj;have h5:i*sz=es.length*sz+(i - es.length)*sz:=by rw[<-qAU];congr 1;omega
   have Q:X.getD (i*sz+j) undef=G.getD ((i - es.length)*sz+j) undef:=by
    rw[r4,if_pos (by simp[n2];omega)];rw[show i*sz+j - (es.length*sz+0)=(i - es.length)*sz+j from by omega];simp[qAq,List.getD]
   rw[R,Q];exact(n3 _ j J hj).mono K N hp)
  ⟨rfl,.inr ⟨b,X,ce,at?_set_same F,rfl,r2,by rw[r3];exact hcs⟩⟩
 rw[n]at hrel;exact hrel
def adM{ak:bU}{κ:aS}{H:A6}{l:Nat}:∀x o,aH ak κ (H.set l .dead) x o->aH ak κ H x o:=by
 rintro x o (b|⟨a,c,h⟩)
 ·exact .inl b
 by_cases e:l=a
 ·subst e;by_cases t:l<H.length
  ·rw[obj?_set_same t]at h;exact h.elim
  rw[obj?,qAC Cp]at h;exact h.elim
 rw[obj?_set_other e]at h;exact .inr ⟨a,c,h⟩
def akP{P:Program}{o:Oper}{s:ASt}{args:Array Operand}{argTypes:Array TypeId}{x y:Operand}{t t2 k l e sz N:Nat}{es ys:List An}{tag:Tag}(ho:o.op=.call {callee:=.builtin .append,args,argTypes})
  (ha:args.toList=[x,y]) (ht:argTypes.toList=[t,t2]) (he:mX P t=some (e,sz,N)) (h2:aP.isSliceT P t2=true) (hx:bL s.tmps x=.slice es (.tip l sz)) (hy:bL s.tmps y=.slice ys tag)
  (hl:obj? s.heap l=.tip (es.length*sz)) (hk:dG (obj? s.heap k)=true) (M:(es.length+ys.length)*N<=140737488355328) (J:es.length+ys.length<=140737488355328) (O:es.all (dH sz)=true) (h3:ys.all (dH sz)=true):
  zD P o s (s.wr (.obj l .dead:: .obj k (.tip ((es++ys).length*sz))::aA o.dst (.slice (es++ys) (.tip k sz)))):=
 pI λC G a w hs=>by
  have ea:args=#[x,y]:=by rw[<-qBl (xs:=args),ha]
  have et:argTypes=#[t,t2]:=by rw[<-qBl (xs:=argTypes),ht]
  subst ea et;have m:=hs.ev x;rw[hx]at m;have H:=hs.ev y;rw[hy]at H;have d:∀(v:Value) (F:World),(Builtin.append_ #[t,t2] o.type #[a.eval x,a.eval y]).run P w=.ok v F->(execOp a.eval o).run P w=.ok (.value v) F:=λv F h=>by
   simp[execOp,ho,resolve,invoke,builtin,h]
  have hlk:l≠k:=λe=>by subst e;rw[hl]at hk;cases hk
  have p:=hs.kill l;have Q:Evo (aH C.ak G s.heap) w w:=Evo.refl _ _;have R:Rel w G (aH C.ak G (s.setObj l .dead).heap) (.slice es (.tip l sz)) (a.eval x):=m.mono Q (dL.refl _) (λx o h _=>adM x o h);have S:Rel w G (aH C.ak G (s.setObj l .dead).heap) (.slice ys tag) (a.eval y):=H.mono Q (dL.refl _) (λx o h _=>adM x o h);have T:dG (obj? (s.setObj l .dead).heap k)=true:=by simp only[ASt.setObj];rw[obj?_set_other hlk];exact hk
  have K:(∀ad n q,a.eval x=.slice ad n q->q<es.length+ys.length)->∃u A F,(execOp a.eval o).run P w=.ok (.value u) F/\
    Sim C A (s.wr (.obj l .dead:: .obj k (.tip ((es++ys).length*sz))::aA o.dst (.slice (es++ys) (.tip k sz)))) (a.put o.dst u) F:=λr=>by
   let⟨v,A,F,h4,h5⟩:=ap1 (P:=P) (ty:=o.type) p T R S he h2 M J O h3 r o.dst;exact⟨v,A,F,d _ _ h4,h5⟩
  let⟨ad,q,I,hcap,_⟩:=m.mY;have B:Tf w G ad q sz (.tip l sz)/\(es≠[]->ad≠none):=by
   rw[I]at m;cases m with
   |slice b off sz' f q1 q2 q3 q4 q5 q6 q7 ht'=>
    let⟨e1,e2⟩:=ht';subst e1;exact⟨⟨rfl,e2⟩,λg=>by rw[q2 g];simp⟩
  let⟨⟨_,B⟩,g⟩:=B;by_cases r:q<es.length+ys.length
  ·exact K λad' n' cap' hu=>by rw[I]at hu;cases hu;exact r
  rcases B with⟨rfl,rfl⟩|⟨b,c,ce,t1,rfl,t3,t4⟩
  ·-- nil, and nothing appended
   have hes:es=[]:=by cases es with|nil=>rfl|cons=>exact(g cn rfl).elim
   have hys:ys=[]:=by cases ys with|nil=>rfl|cons=>simp at r
   subst hes hys;let⟨U,V,e2,_,_⟩:=H.mY;obtain⟨hu,i,z,hi,rfl,rfl,hz,hzs⟩:=oD he;let⟨el2,hu2⟩:=vV h2;let⟨W,hlt⟩:=yF T;refine⟨.slice none 0 0,G,w,d _ _ ?_,?_⟩
   ·rw[I,e2];have hfc:(Builtin.firstCells i.size 0 (.slice U 0 V)).run P w=.ok #[] w:=by cases U<;>simp[Builtin.firstCells,loadCells,loadCellsFrom]
    have L:∀w:World,(sizeOf e).run P w=.ok i.size w:=λw=>by simp[sizeOf,typeInfo,hi]
    simp only[qAA]at *;simp[Builtin.append_,run_underlying hu,run_underlying hu2,L,Builtin.lenOf,hfc]
   have X:Sim C G ((s.setObj l .dead).setObj k (.tip 0)) a w:=by
    have D:=p.resv k W;have g:∀E b,at? G E=some b->k≠E:=λE b M e=>by subst e;rw[D]at M;cases M
    refine p.step (H':=(s.setObj l .dead).heap.set k (.tip 0)) (Evo.refl _ _) (dL.refl _) (by simp[p.klen]) ?_ (λE b O h2=>.inl ⟨O,obj?_set_other (g E b O),rfl⟩)
     (λl1 l2 b Y Z g3 g4=>p.apart l1 l2 b Y Z (by rwa[obj?_set_other (g l1 b Y)]at g3) (by rwa[obj?_set_other (g l2 b Z)]at g4)) p.bound ?_ (λ_ _=>rfl) rfl rfl rfl
    ·rintro b o (M|⟨E,Y,Z⟩) _
     ·exact .inl M
     rw[obj?_set_other (g E b Y)]at Z;exact .inr ⟨E,Y,Z⟩
    intro E hl';by_cases e:k=E
    ·subst e;exact D
    rw[obj?_set_other e]at hl';exact p.resv E hl'
   have:=X.aA o.dst (v:=.slice [] (.tip k i.size)) (u:=.slice none 0 0) (.slice (es:=[]) 0 0 i.size (λ_ _=>undef) (λi h=>by cases h) (λh=>(h rfl).elim) (qAZ _) cn (λi j h=>by cases h) (λi j h=>by cases h) (λi j h=>by cases h) ⟨rfl,.inl ⟨rfl,rfl⟩⟩);have ez:(([]:List An)++[]).length*i.size=0:=by simp
   rw[ez];exact this
  rw[I]at m d;let⟨v,A,F,h4,h5⟩:=atO (P:=P) (ty:=o.type) hs hk m t1 t3 t4 hl H he h2 J O h3 Cl o.dst;exact⟨v,A,F,d _ _ h4,h5⟩
def as4{place:Nat->Option (Nat×Nat)}:∀(parts:List (Nat×AV)) (cs out:An),lH place cs parts=some out->out.length=cs.length:=by
 intro parts
 induction parts with|nil=>intro cs out h;simp only[lH,Option.some.injEq]at h;rw[h]|cons p parts i=>
  intro cs out h;simp only[lH]at h
  grind
def atN(sz:Nat):∀(n:Nat) (cs:An),cs.length=n*sz->(chunks sz n cs).length=n/\∀i,i<n->((chunks sz n cs).getD i []).length=sz/\∀j,j<sz->((chunks sz n cs).getD i []).getD j .unk=cs.getD (i*sz+j) .unk:=by
 intro n
 induction n with
 |zero=>intro cs _;exact⟨rfl,λi h=>by cases h⟩
 |succ n b=>
  intro cs l;rw[qAU,qCf]at l;let⟨c,d⟩:=b (cs.drop sz) Cp;refine⟨by simp[chunks,c],λi h=>?_⟩;cases i with
  |zero=>
   refine⟨by simp[chunks,List.getD];omega,λj a=>?_⟩;simp only[chunks,List.getD,qAG,qAw,qDM,qAL]
   grind
  |succ i=>
   let⟨e,f⟩:=d i Cl;refine⟨by simpa[chunks,List.getD]using e,λj a=>?_⟩;have:=f j a;rw[getD_drop]at this;rw[show(i+1)*sz+j=sz+(i*sz+j)from by rw[qAU];omega];rw[<-this];simp[chunks,List.getD]
def aaQ(z:An):∀(n m:Nat),m<n*z.length->((List.replicate n z).flatten).getD m .unk=z.getD (m%z.length) .unk:=by
 intro n
 induction n with|zero=>intro m a;simp at a|succ n i=>
  intro m a;rw[qCo,qCi];by_cases h:m<z.length;·rw[List.getD,qAg h,qCl h];rfl
  have l:z.length<=m:=by omega
  rw[List.getD,qAl l];have:=i (m - z.length) (by rw[qAU]at a;omega);rw[List.getD]at this;rw[this,Nat.mod_eq_sub_mod l]
def Rel.shr{w:World}{κ:aS}{pv:bU}{x:AV}{v:Value}(h:Rel w κ pv x v):Rel w κ pv (shr x) v:=by cases h with|slice b o s u f g i j k l m _=>exact .slice b o s u f g i j k l m trivial|unk=>exact .unk _|int h=>exact .int h|bool=>exact .bool _|str h=>exact .str h|nilp=>exact .nilp|ifc t v=>exact .ifc t v|ptr h=>exact .ptr h|eptr u a b c=>exact .eptr u a b c|agg a b=>exact .agg a b|tup a b=>exact .tup a b|func a b=>exact .func a b|mapr h=>exact .mapr h|nilFunc=>exact .nilFunc|psl f g i=>exact .psl f g i|flnil=>exact .flnil|flcons u x a b c d e=>exact .flcons u x a b c d e
def ac5{cs:An}{j:Nat}:(cs.map Abs.shr).getD j .unk=Abs.shr (cs.getD j .unk):=by simp;cases cs[j]?<;>rfl
def ak6{P:Program}{o:Oper}{s:ASt}{t len k e sz H:Nat}{parts:Array (Nat×Operand)}{z cs:An}(X:o.op=.buildSlice t len parts)(Y:mX P t=some (e,sz,H))(Z:lI P e=some z)
  (hk:dG (obj? s.heap k)=true) (Q:len*sz<=16777216) (I:len<=16777216) (h:z.length=sz) (R:lH (λi=>some (i*sz,sz)) ((List.replicate len z).flatten) (parts.toList.map λp=>(p.1,bL s.tmps p.2))=some cs):
  zD P o s (s.wr (.obj k (.tip (len*sz))::aA o.dst (.slice (chunks sz len (cs.map shr)) (.tip k sz)))):=
 pI λC A a w S=>by
  let⟨J,i,zv',y,K,hby,hzz,hzs⟩:=oD Y;let⟨v,z1,L,z3⟩:=aju Z;have l:((List.replicate len z).flatten).length=len*sz:=by simp[h]
  let r:Array Value:=if len*sz=0 then #[]else v.cells
  let n:Array Value:=(Array.range (len*sz)).map (r[·%r.size]!)
  have g:n.size=((List.replicate len z).flatten).length:=by rw[l];simp[n]
  have B:∀j,j<((List.replicate len z).flatten).length->Rel w A (aH C.ak A s.heap) (((List.replicate len z).flatten).getD j .unk) (n.getD j undef):=λj f=>by
   rw[l]at f;have D:0<sz:=qCc (λe=>by subst e;simp at f);have d:r=v.cells:=by show(if _ then _ else _)=_;rw[if_neg Cl]
   have E:r.size=sz:=by rw[d,L,h]
   rw[aaQ z len j (by rw[h];exact f),h];have T:j%sz<sz:=qDj _ D;have M:n.getD j undef=v.cells.getD (j%sz) undef:=by
    have F:j%sz<v.cells.size:=by rw[L,h];exact T
    simp only[n,Array.getD,Array.size_map,Array.size_range,f,dif_pos,Array.getInternal_eq_getElem,Array.getElem_map,Array.getElem_range,E,d,F];have N:v.cells.size=sz:=by rw[L,h]
    rw[show j%v.cells.size=j%sz from by rw[N]];exact getElem!_pos v.cells (j%sz) F
   rw[M];exact z3 _ _ _ _ (by rw[h];exact T)
  let⟨c',U,f2,f3⟩:=Yf (w:=w) (κ:=A) (pv:=aH C.ak A s.heap) (place:=λi=>some (i*sz,sz)) (parts.toList.map λp=>(p.1,bL s.tmps p.2)) (parts.toList.map λp=>(p.1,a.eval p.2)) _ cs n cn
   (λj f=>by
    simp only[qAi]at f;simp only[List.getD,qAE,qAc f,qAx,qAw];exact⟨trivial,S.ev _⟩) g B R
  have q:cs.length=len*sz:=by rw[as4 _ _ _ R,l]
  let⟨V,W⟩:=atN sz len (cs.map Abs.shr) (by simpa using q);let⟨O,m⟩:=acy (P:=P) S hk (es:=chunks sz len (cs.map Abs.shr)) (c:=c') (e:=e) (cap:=len) (sz:=sz) (λi y=>(W i Cl).1) Cl Cl (by rw[f2,q];exact qAd _)
   (λi j y f=>by
    rw[V]at y;rw[(W i y).2 j f,ac5];exact(f3 _ (by rw[q];exact uT y f)).shr) o.dst
  rw[V]at m;refine⟨_,O,_,?_,m⟩;have u:(sizeOf e).run P w=.ok sz w:=by simp[sizeOf,typeInfo,y,K]
  have M:(parts.map λp=>(p.1,a.eval p.2)).toList=parts.toList.map λp=>(p.1,a.eval p.2):=by simp
  simp only[execOp,X,Instr.buildSlice,Sem.run_bind,run_underlying J,Result.andThen_ok,u];rw[Sem.run_ite,if_neg Cl];simp only[Sem.run_pure,Result.andThen_ok,Sem.run_bind];rw[M];by_cases G:len*sz=0
  ·have d:r=#[]:=if_pos G;have b:(Array.range (len*sz)).map (λx=>(#[]:Array Value)[x%(#[]:Array Value).size]!)=n:=by simp only[n,d]
   rw[if_pos G];simp only[Sem.run_pure,Result.andThen_ok,Sem.run_bind];rw[b,U];simp[newRow]
  have d:r=v.cells:=if_neg G;have b:(Array.range (len*sz)).map (λx=>v.cells[x%v.cells.size]!)=n:=by simp only[n,d]
  rw[if_neg G];simp only[Sem.run_pure,Result.andThen_ok,Sem.run_bind,z1];rw[b,U];simp[newRow]
def atr{o:AObj}{n:Nat}(h:Aw o n):live o:=by cases o<;>simp[Aw,live]at *
def al4{C:Ctx}{κ:aS}{s:ASt}{a:Act}{w:World}(hs:Sim C κ s a w){k:Nat}(p:dG (obj? s.heap k)=true){es:List An}{c:Array Value}{e:TypeId}{cap sz:Nat}
  (n:∀i,i<es.length->(es.getD i []).length=sz) (h:es.length<=cap) (b:es.length<=140737488355328) (o:cap*sz<=c.size)
  (q:∀i j,i<es.length->j<sz->Rel w κ (aH C.ak κ s.heap) ((es.getD i []).getD j .unk) (c.getD (i*sz+j) undef)) (d:Option Tmp):
  ∃f,Sim C f (s.wr (.obj k (.arr sz es)::aA d (.psl k sz es.length))) (a.put d (.slice (some ⟨w.heap.size,0,none⟩) es.length cap)) {w with heap:=w.heap.push (.cells c e (0,0))}:=by
 let⟨r,l⟩:=yF p;have g:k<κ.length:=by rw[hs.klen];exact l
 have m:=hs.new (hs.resv k r) l (.cells c e (0,0)) (.arr sz es) cn ⟨c,e,uZ,qAs (qAQ _ h) o,n,λi j t u=>akX hs r l _ (q i j t u)⟩;exact⟨_,m.aA d (.psl h b ⟨rfl,.inr ⟨w.heap.size,c,e,at?_set_same g,rfl,uZ,o⟩⟩)⟩
def ayO{P:Program}{C:Ctx}{κ:aS}{s:ASt}{a:Act}{w:World}(hs:Sim C κ s a w){k:Nat}(Z:dG (obj? s.heap k)=true){t Q e sz y ty:Nat}{es ys:List An}{tag A:Tag}{u u2:Value}
  (R:Rel w κ (aH C.ak κ s.heap) (.slice es tag) u) (B:Rel w κ (aH C.ak κ s.heap) (.slice ys A) u2) (S:mX P t=some (e,sz,y)) (h2:aP.isSliceT P Q=true)
  (hb:(es.length+ys.length)*y<=140737488355328) (D:es.length+ys.length<=140737488355328) (T:es.all (dH sz)=true) (U:ys.all (dH sz)=true)
  (r:∀I n cap,u=.slice I n cap->cap<es.length+ys.length) (d:Option Tmp):
  ∃v p V,(Builtin.append_ #[t,Q] ty #[u,u2]).run P w=.ok v V/\Sim C p (s.wr (.obj k (.arr sz (es++ys))::aA d (.psl k sz (es++ys).length))) (a.put d v) V:=by
 obtain⟨I,cap,rfl,W,_⟩:=R.mY;let⟨ad2,X,J,_,_⟩:=B.mY;have K:Sim C κ s a w.drew:=hs.sameHeap rfl rfl rfl rfl;have E:Evo (aH C.ak κ s.heap) w w.drew:=Evo.of_heap rfl;have L:=R.mono E (dL.refl _) (λ_ _ h _=>h);have F:=B.mono E (dL.refl _) (λ_ _ h _=>h);let⟨o,o1,o2,o3⟩:=qp (P:=P) L (λi g=>(iT T i g).1);let⟨b,n1,n2,n3⟩:=qp (P:=P) F (λi g=>(iT U i g).1);let⟨_,i,z,g,hsz,hby,hz,M⟩:=oD S;have N:=r I es.length cap rfl;let⟨x,hnc,G⟩:=run_append_grow (P:=P) (w:=w) (ty:=ty) (a:=I) (len:=es.length) (cap:=cap) (n:=ys.length) (u2:=u2) (old:=o) (new:=b) (z:=z) S h2 (by subst J;rfl) N hb D
  (by simp[zeroValue,typeInfo,g,hz]) o1 n1
 have f:(es++ys).length=es.length+ys.length:=by simp
 have q:(o++b++Builtin.zeroCells z.cells (x - (es.length+ys.length))).size=x*sz:=by
  simp only[qCh,o2,n2,size_zeroCells,M];rw[<-qAU,<-qAU]
  grind
 let⟨p,m⟩:=al4 K Z (es:=es++ys) (c:=o++b++Builtin.zeroCells z.cells (x - (es.length+ys.length))) (e:=e) (cap:=x) (sz:=sz)
  (λi g=>by
   rw[f]at g;by_cases l:i<es.length
   ·have:(es++ys).getD i []=es.getD i []:=by simp[List.getD,qAg l]
    rw[this];exact(iT T i l).1
   have:(es++ys).getD i []=ys.getD (i - es.length) []:=by simp[List.getD,qAl (qBd l)]
   rw[this];exact(iT U _ Cl).1)
  Cl Cl (qBm q.symm)
  (λi j g O=>by
   rw[f]at g;by_cases l:i<es.length
   ·have Y:(es++ys).getD i []=es.getD i []:=by simp[List.getD,qAg l]
    have J:(o++b++Builtin.zeroCells z.cells (x - (es.length+ys.length))).getD (i*sz+j) undef=o.getD (i*sz+j) undef:=by
     have:=uT l O;simp only[qAq];rw[Array.append_assoc,qBT Cl]
    grind
   have Y:(es++ys).getD i []=ys.getD (i - es.length) []:=by simp[List.getD,qAl (qBd l)]
   have H:i - es.length<ys.length:=by omega
   have J:(o++b++Builtin.zeroCells z.cells (x - (es.length+ys.length))).getD (i*sz+j) undef=b.getD ((i - es.length)*sz+j) undef:=by
    have h4:=uT H O;have h5:i*sz=es.length*sz+(i - es.length)*sz:=by rw[<-qAU];congr 1;omega
    simp only[qAq];rw[qBT (by rw[qCh];omega),qBQ Cl];congr 2;omega
   rw[Y,J];exact n3 _ j H O) d
 refine⟨_,p,_,G,?_⟩;rw[f]at m|-;exact m
def asA{P:Program}{C:Ctx}{κ:aS}{s:ASt}{a:Act}{w:World}(hs:Sim C κ s a w){k l b:Nat}(hk:dG (obj? s.heap k)=true){e sz by_ t t2 ty:Nat}{es es0 ys:List An}{tag2:Tag}{cap:Nat}{u2:Value}{c:Array Value}{ce:TypeId}
  (hcapl:es.length<=cap) (F:at? κ l=some b) (V:w.heap[b]? =some (Obj.cells c ce (0,0))) (hcs:cap*sz<=c.size)
  (H:obj? s.heap l=.arr sz es0) (hes:es=es0.take es.length) (hu2:Rel w κ (aH C.ak κ s.heap) (.slice ys tag2) u2) (he:mX P t=some (e,sz,by_)) (h2:aP.isSliceT P t2=true)
  (hlim:es.length+ys.length<=140737488355328) (h1:es.all (dH sz)=true) (h3:ys.all (dH sz)=true) (B:es.length+ys.length<=cap) (d:Option Tmp):
  ∃v κ' W,(Builtin.append_ #[t,t2] ty #[.slice (some ⟨b,0,none⟩) es.length cap,u2]).run P w=.ok v W/\
   Sim C κ' (s.wr (.obj l .dead:: .obj k (.arr sz (es++ys))::aA d (.psl k sz (es++ys).length))) (a.put d v) W:=by
 let⟨hres,n⟩:=yF hk;have E:k<κ.length:=by rw[hs.klen];exact n
 have q:(es++ys).length=es.length+ys.length:=by simp
 let⟨ad2,cap2,N,_,_⟩:=hu2.mY;let⟨D,n1,n2,n3⟩:=qp (P:=P) hu2 (λi G=>(iT h3 i G).1);let⟨hut,i,z,G,hsz,hby,hz,hzs⟩:=oD he;let⟨el2,hu2t⟩:=vV h2;have hle:es.length*sz+ys.length*sz<=c.size:=by rw[<-qAU];exact qAs (qAQ _ B) hcs
 have hone:D.toList.all amm=true:=by
  rw[qAP];intro x X;obtain⟨m,hm,rfl⟩:=qBy X;have hm':m<ys.length*sz:=by rw[<-n2];simpa using hm
  have hzp:0<sz:=qCc (λe=>by subst e;simp at hm');have I:m/sz<ys.length:=(qCG hzp).2 hm';have hj':m%sz<sz:=qDj _ hzp;have hr:=n3 (m/sz) (m%sz) I hj';rw[qBK,qCL]at hr;have hg:D.getD m undef=D.toList[m]:=by
   have hms:m<D.size:=by simpa using hm
   simp[Array.getD,hms]
  rw[hg]at hr;refine arD hr ?_;let⟨q1,q2⟩:=iT h3 (m/sz) I;generalize ys.getD (m/sz) []=ee at q1 q2|-;have hlt':m%sz<ee.length:=by omega
  rw[List.getD,qAc hlt',qAw];exact qAP.1 q2 _ (qAO _)
 let⟨W,c',r1,r2,r3,r4,r5,r6,r7,r8,r9⟩:=WO (P:=P) (b:=b) (off:=es.length*sz) (e:=ce) D.toList 0 w c V (by simp[n2];omega) hone;have hrun:(Builtin.append_ #[t,t2] ty #[.slice (some ⟨b,0,none⟩) es.length cap,u2]).run P w=.ok (.slice (some ⟨b,0,none⟩) (es.length+ys.length) cap) W:=by
  have Y:∀w:World,(sizeOf e).run P w=.ok sz w:=λw=>by simp[sizeOf,typeInfo,G,hsz]
  have hadd:Addr.add ⟨b,0,none⟩ (es.length*sz)=⟨b,es.length*sz,none⟩:=by rw[Dr];simp
  have hn:Builtin.lenOf u2=pure ys.length:=by subst N;rfl
  simp[Builtin.append_,run_underlying hut,run_underlying hu2t,Y,hn,B,n1,hadd,r1]
 -- the new state
 have hsz':∀o,o<es.length*sz->c'.getD o undef=c.getD o undef:=λo ho=>by rw[r4 o,if_neg Cl]
 have O:Evo (aH C.ak κ s.heap) w W:=by
  refine⟨by omega,λx o y hn hc=>?_,λx d e' z' X=>?_⟩
  ·by_cases J:x=b
   ·subst J;exact(hn (.inr ⟨l,F,by rw[H];trivial⟩)).elim
   simpa[World.cell?,r5 x J]using hc
  by_cases J:x=b
  ·subst J;rw[V]at X;cases X;exact⟨c',r2,r3⟩
  exact⟨d,by rw[r5 x J];exact X,rfl⟩
 have hkn:∀x y,at? κ x=some y->k≠x:=λx y K e=>by subst e;rw[hs.resv _ hres]at K;cases K
 have hlk':l≠k:=(hkn l b F).symm;have hll:l<s.heap.length:=by rw[<-hs.klen];exact lt_of_at? F
 have Q:dL κ (κ.set k (some b)):=λx y K=>by rw[at?_set_other (hkn x y K)];exact K
 let R:=(s.heap.set l .dead).set k (.arr sz (es++ys))
 have S:obj? R k=.arr sz (es++ys):=obj?_set_same (by simpa using n);have r:obj? R l=.dead:=by show obj? ((s.heap.set l .dead).set k _) l=_;rw[obj?_set_other hlk'.symm];exact obj?_set_same hll
 have p:∀x,x≠k->x≠l->obj? R x=obj? s.heap x:=λx h1 h2=>by show obj? ((s.heap.set l .dead).set k _) x=_;rw[obj?_set_other h1.symm,obj?_set_other h2.symm]
 have hp:∀x o,aH C.ak (κ.set k (some b)) R x o->x<w.heap.size->aH C.ak κ s.heap x o:=by
  rintro x o (X|⟨u,g,A⟩) _
  ·exact .inl X
  by_cases f:u=k
  ·subst f;rw[at?_set_same E]at g;cases g;exact .inr ⟨l,F,by rw[H];trivial⟩
  by_cases h:u=l
  ·subst h;rw[r]at A;exact A.elim
  rw[at?_set_other (qBo f)]at g;rw[p u f h]at A;exact .inr ⟨u,g,A⟩
 have T:=hs.obj l b F (by rw[H];trivial);rw[H]at T;let⟨c0,ce0,q1,q2,q3,q4⟩:=T;rw[V]at q1;cases q1;have U:∀i,i<es.length->i<es0.length/\es.getD i []=es0.getD i []:=λi G=>by
  have h5:i<(es0.take es.length).length:=by rw[<-hes];exact G
  simp only[qAz]at h5;refine⟨by omega,?_⟩;rw[hes];simp only[List.getD,qBq,if_pos G]
 have Z:∀i,i<(es++ys).length->((es++ys).getD i []).length=sz:=λi G=>by
  rw[q]at G;by_cases n:i<es.length
  ·have:(es++ys).getD i []=es.getD i []:=by simp[List.getD,qAg n]
   rw[this];exact(iT h1 i n).1
  have:(es++ys).getD i []=ys.getD (i - es.length) []:=by simp[List.getD,qAl (qBd n)]
  rw[this];exact(iT h3 _ Cl).1
 have hrels:∀i j,i<(es++ys).length->j<sz->Rel w κ (aH C.ak κ s.heap) (((es++ys).getD i []).getD j .unk) (c'.getD (i*sz+j) undef):=λi j G hj=>by
  rw[q]at G;by_cases n:i<es.length
  ·have L:(es++ys).getD i []=es.getD i []:=by simp[List.getD,qAg n]
   rw[L,hsz' _ (uT n hj),(U i n).2];exact q4 i j (U i n).1 hj
  have L:(es++ys).getD i []=ys.getD (i - es.length) []:=by simp[List.getD,qAl (qBd n)]
  have I:i - es.length<ys.length:=by omega
  have h4:=uT I hj;have h5:i*sz=es.length*sz+(i - es.length)*sz:=by rw[<-qAU];congr 1;omega
  rw[L,r4 (i*sz+j),if_pos (by simp only[qAS,qBZ,n2];omega)];have h6:D.toList.getD (i*sz+j - (es.length*sz+0)) undef=D.getD ((i - es.length)*sz+j) undef:=by
   rw[show i*sz+j - (es.length*sz+0)=(i - es.length)*sz+j by omega];simp[List.getD,qAq]
  rw[h6];exact n3 _ j I hj
 have hsim:Sim C (κ.set k (some b)) {s with heap:=R} a W:=by
  refine hs.step (H':=R) O Q (by simp[R,hs.klen]) hp ?_ ?_ ?_ ?_ ?_ r7 r8 r9
  ·intro u M g A;by_cases f:u=k
   ·subst f;rw[at?_set_same E]at g;cases g;refine .inr ⟨by rw[r6];exact hs.bound l b F,hs.own l b F (by rw[H];trivial),?_⟩;rw[S];exact⟨c',ce,r2,by rw[r3,q,qAU];exact hle,Z,λi j G hj=>(hrels i j G hj).mono O Q hp⟩
   by_cases h:u=l
   ·subst h;rw[r]at A;exact A.elim
   rw[at?_set_other (qBo f)]at g;rw[p u f h]at A|-;refine .inl ⟨g,rfl,r5 M λeb=>?_⟩;subst eb;exact h (hs.apart u l M g F A (by rw[H];trivial))
  ·intro l1 l2 M g A g3 g4;by_cases L:l1=k<;>by_cases N:l2=k
   ·rw[L,N]
   ·subst L;rw[at?_set_same E]at g;cases g;rw[at?_set_other (qBo N)]at A;by_cases h:l2=l
    ·subst h;rw[r]at g4;exact g4.elim
    rw[p l2 N h]at g4;exact(h (hs.apart l2 l b A F g4 (by rw[H];trivial))).elim
   ·subst N;rw[at?_set_same E]at A;cases A;rw[at?_set_other (qBo L)]at g;by_cases h:l1=l
    ·subst h;rw[r]at g3;exact g3.elim
    rw[p l1 L h]at g3;exact(h (hs.apart l1 l b g F g3 (by rw[H];trivial))).elim
   rw[at?_set_other (qBo L)]at g;rw[at?_set_other (qBo N)]at A;refine hs.apart l1 l2 M g A ?_ ?_
   ·by_cases h:l1=l
    ·subst h;rw[H];trivial
    rwa[p l1 L h]at g3
   by_cases h:l2=l
   ·subst h;rw[H];trivial
   rwa[p l2 N h]at g4
  ·intro u M g;rw[r6];by_cases f:u=k
   ·subst f;rw[at?_set_same E]at g;cases g;exact hs.bound l b F
   rw[at?_set_other (qBo f)]at g;exact hs.bound u M g
  ·intro u g;by_cases f:u=k
   ·subst f;rw[S]at g;cases g
   by_cases h:u=l
   ·subst h;rw[r]at g;cases g
   rw[p u f h]at g;rw[at?_set_other (qBo f)];exact hs.resv u g
  intro M hb';refine r5 M λeb=>?_;subst eb;exact hs.own l M F (by rw[H];trivial) hb'
 refine⟨_,κ.set k (some b),W,hrun,?_⟩;rw[show es.length+ys.length=(es++ys).length from q.symm];exact hsim.aA d (.psl (by rw[q];exact B) (by rw[q];exact hlim) ⟨rfl,.inr ⟨b,c',ce,at?_set_same E,rfl,r2,by rw[r3];exact hcs⟩⟩)
def VJ{P:Program}{o:Oper}{s:ASt}{args:Array Operand}{argTypes:Array TypeId}{x y:Operand}{t t2 k l e sz Z:Nat}{es es0 ys:List An}{tag:Tag}(ho:o.op=.call {callee:=.builtin .append,args,argTypes})
  (ha:args.toList=[x,y]) (ht:argTypes.toList=[t,t2]) (he:mX P t=some (e,sz,Z)) (h2:aP.isSliceT P t2=true) (hx:bL s.tmps x=.psl l sz es.length) (hy:bL s.tmps y=.slice ys tag)
  (V:obj? s.heap l=.arr sz es0) (R:es=es0.take es.length) (hk:dG (obj? s.heap k)=true) (W:(es.length+ys.length)*Z<=140737488355328) (M:es.length+ys.length<=140737488355328) (X:es.all (dH sz)=true) (h3:ys.all (dH sz)=true):
  zD P o s (s.wr (.obj l .dead:: .obj k (.arr sz (es++ys))::aA o.dst (.psl k sz (es++ys).length))):=
 pI λC G a w H=>by
  have ea:args=#[x,y]:=by rw[<-qBl (xs:=args),ha]
  have et:argTypes=#[t,t2]:=by rw[<-qBl (xs:=argTypes),ht]
  subst ea et;have S:=H.ev x;rw[hx]at S;have I:=H.ev y;rw[hy]at I;have d:∀(v:Value) (F:World),(Builtin.append_ #[t,t2] o.type #[a.eval x,a.eval y]).run P w=.ok v F->(execOp a.eval o).run P w=.ok (.value v) F:=λv F h=>by
   simp[execOp,ho,resolve,invoke,builtin,h]
  have hlk:l≠k:=λe=>by subst e;rw[V]at hk;cases hk
  have f:=H.kill l;have hev:Evo (aH C.ak G s.heap) w w:=Evo.refl _ _;have hry1:Rel w G (aH C.ak G (s.setObj l .dead).heap) (.slice ys tag) (a.eval y):=I.mono hev (dL.refl _) (λx o h _=>adM x o h);have hk1:dG (obj? (s.setObj l .dead).heap k)=true:=by simp only[ASt.setObj];rw[obj?_set_other hlk];exact hk
  obtain⟨ad,p,J,N,hlim0,g⟩:∃ad p,a.eval x=.slice ad es.length p/\es.length<=p/\es.length<=140737488355328/\Tf w G ad p sz (.tip l sz):=by
   generalize a.eval x=ux at S;cases S with
   |psl K q g3=>exact⟨_,_,rfl,K,q,g3⟩
  let⟨_,g⟩:=g;have hrx1:Rel w G (aH C.ak G (s.setObj l .dead).heap) (.slice es .shared) (a.eval x):=by
   rw[J];rcases g with⟨rfl,rfl⟩|⟨b,c,ce,Y,rfl,t3,t4⟩
   ·have hes0:es=[]:=qAD.1 Cl;rw[hes0];exact .slice (es:=[]) 0 0 sz (λ_ _=>undef) (λi h=>by cases h) (λh=>(h rfl).elim) (qAZ _) cn (λi j h=>by cases h) (λi j h=>by cases h) (λi j h=>by cases h) trivial
   have O:=H.obj l b Y (by rw[V];trivial);rw[V]at O;let⟨c0,ce0,q1,q2,q3,q4⟩:=O;rw[t3]at q1;cases q1;have B:∀i,i<es.length->i<es0.length/\es.getD i []=es0.getD i []:=λi A=>by
    have h5:i<(es0.take es.length).length:=by rw[<-R];exact A
    simp only[qAz]at h5;refine⟨by omega,?_⟩;rw[R];simp only[List.getD,qBq,if_pos A]
   refine .slice b 0 sz (λi j=>c.getD (i*sz+j) undef) (λi A=>(iT X i A).1) (λ_=>rfl) N Cl ?_ ?_ ?_ trivial
   ·rintro i j A hj (hp|⟨m,K,q⟩)
    ·exact H.own l b Y (by rw[V];trivial) (H.pvold _ _ hp)
    simp only[ASt.setObj]at q;by_cases e:l=m
    ·subst e;have hll:l<s.heap.length:=by rw[<-H.klen];exact lt_of_at? Y
     rw[obj?_set_same hll]at q;exact q.elim
    rw[obj?_set_other e]at q;exact e (H.apart l m b Y K (by rw[V];trivial) (atr q))
   ·intro i j A hj;have h2:i*sz+j<c.size:=qAB (uT (B i A).1 hj) q2;simp[World.cell?,t3,Array.getD,h2]
   intro i j A hj;rw[(B i A).2];exact(q4 i j (B i A).1 hj).mono hev (dL.refl _) (λx o h _=>adM x o h)
  have T:(∀ad n p,a.eval x=.slice ad n p->p<es.length+ys.length)->∃u D F,(execOp a.eval o).run P w=.ok (.value u) F/\
    Sim C D (s.wr (.obj l .dead:: .obj k (.arr sz (es++ys))::aA o.dst (.psl k sz (es++ys).length))) (a.put o.dst u) F:=λr=>by
   let⟨v,D,F,h4,h5⟩:=ayO (P:=P) (ty:=o.type) f hk1 hrx1 hry1 he h2 W M X h3 r o.dst;exact⟨v,D,F,d _ _ h4,h5⟩
  by_cases r:p<es.length+ys.length
  ·exact T λad' n' cap' hu=>by rw[J]at hu;cases hu;exact r
  rcases g with⟨rfl,rfl⟩|⟨b,c,ce,Y,rfl,t3,t4⟩
  ·have Q:es=[]:=qAD.1 Cl;have hys:ys=[]:=qAD.1 Cl;let⟨ad2,cap2,e2,_,_⟩:=I.mY;let⟨hu,i,z,A,hsz,hby,hz,hzs⟩:=oD he;let⟨el2,hu2⟩:=vV h2;let⟨hres,hlt⟩:=yF hk1;have hl0:es.length=0:=by rw[Q];rfl
   have hy0:ys.length=0:=by rw[hys];rfl
   refine⟨.slice none 0 0,G,w,d _ _ ?_,?_⟩
   ·rw[J,e2,hl0,hy0];have hfc:(Builtin.firstCells i.size 0 (.slice ad2 0 cap2)).run P w=.ok #[] w:=by cases ad2<;>simp[Builtin.firstCells,loadCells,loadCellsFrom]
    have U:∀w:World,(sizeOf e).run P w=.ok i.size w:=λw=>by simp[sizeOf,typeInfo,A]
    simp[Builtin.append_,run_underlying hu,run_underlying hu2,U,Builtin.lenOf,hfc]
   have hsim:Sim C G ((s.setObj l .dead).setObj k (.arr sz [])) a w:=by
    have E:=f.resv k hres;have L:∀m b,at? G m=some b->k≠m:=λm b W e=>by subst e;rw[E]at W;cases W
    refine f.step (H':=(s.setObj l .dead).heap.set k (.arr sz [])) (Evo.refl _ _) (dL.refl _) (by simp[f.klen]) ?_ (λm b X h2=>.inl ⟨X,obj?_set_other (L m b X),rfl⟩)
     (λl1 l2 b K q g3 g4=>f.apart l1 l2 b K q (by rwa[obj?_set_other (L l1 b K)]at g3) (by rwa[obj?_set_other (L l2 b q)]at g4)) f.bound ?_ (λ_ _=>rfl) rfl rfl rfl
    ·rintro b o (W|⟨m,K,q⟩) _
     ·exact .inl W
     rw[obj?_set_other (L m b K)]at q;exact .inr ⟨m,K,q⟩
    intro m hl';by_cases e:k=m
    ·subst e;exact E
    rw[obj?_set_other e]at hl';exact f.resv m hl'
   have:=hsim.aA o.dst (v:=.psl k sz 0) (u:=.slice none 0 0) (.psl (qAd _) Cl ⟨rfl,.inl ⟨rfl,rfl⟩⟩);rw[Q,hys];exact this
  rw[J]at d;let⟨v,D,F,h4,h5⟩:=asA (P:=P) (ty:=o.type) H hk N Y t3 t4 V R I he h2 M X h3 Cl o.dst;exact⟨v,D,F,d _ _ h4,h5⟩
def aoo{P:Program}{o:Oper}{s:ASt}{t k e sz d:Nat}{x y:Operand}{L M:IntKind}{l c:Int}{z:An}(Q:o.op=.makeSlice t x y)(R:mX P t=some (e,sz,d))(S:lI P e=some z)(T:bL s.tmps x=.int L l)(U:bL s.tmps y=.int M c)
  (V:dG (obj? s.heap k)=true) (h0:0<=l) (p:l<=c) (W:(d:Int)*c<=281474976710656) (hc:c<=140737488355328) (q:z.length=sz):zD P o s (s.wr (.obj k (.arr sz (List.replicate l.toNat z))::aA o.dst (.psl k sz l.toNat))):=
 pI λC κ a w u=>by
  let⟨A,i,v,n,B,D,E,f⟩:=oD R;have h:=u.ev x;have b:=u.ev y;rw[T]at h;rw[U]at b;generalize F:a.eval x=ux at h;generalize G:a.eval y=uy at b;have r:=run_make (P:=P) w t e i v A n E L M l c h0 p (by rw[D];exact W) Cl;have X:z=v.cells.toList.map ofConst:=by
   have:=S;simp only[lI]at this
   grind
  let⟨H,g⟩:=al4 u V (es:=List.replicate l.toNat z) (c:=madeCells v.cells (c.toNat*i.size)) (e:=e) (cap:=c.toNat) (sz:=sz)
   (λi n=>by simp at n;simp[n,q]) Cp Cp (by rw[size_madeCells,B];exact qAd _)
   (λj m N O=>by
    simp at N;have Y:(List.replicate l.toNat z).getD j []=z:=by simp[N]
    have I:j*sz+m<c.toNat*i.size:=by
     have:(j+1)*sz<=c.toNat*sz:=qAQ _ Cl
     grind
    have J:(j*sz+m)%v.cells.size=m:=by rw[f,qBK,qDr,qCl O]
    have Z:(madeCells v.cells (c.toNat*i.size)).getD (j*sz+m) undef=v.cells.getD m undef:=by
     have K:m<v.cells.size:=by rw[f];exact O
     simp only[madeCells,qAq,Array.getElem?_map,Array.getElem?_range,I,if_true,qAx,J];simp[K]
    rw[Y,Z,X];have:(v.cells.toList.map ofConst).getD m .unk=ofConst (v.cells.getD m undef):=by simp_all
    rw[this];exact xB _) o.dst
  refine⟨_,H,_,?_,by simpa using g⟩;cases h;cases b;simp only[execOp,Q,F,G];simp[r]
end Abs
end Go.Proofs.YtneeginmfjageaaGreat

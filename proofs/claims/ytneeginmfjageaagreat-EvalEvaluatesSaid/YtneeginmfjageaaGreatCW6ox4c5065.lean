/- The evaluator. Conditions: none. -/
import Derived.Test.YtneeginmfjageaaGreatCQ2ox2a4363
set_option linter.all false
namespace Go.Proofs.YtneeginmfjageaaGreat
namespace Abs
def dV{α β:Type}(J:β->α)(f:Nat->Option (PZ α At))(b:At):RR β->Prop| .ok v=>Ev f (.ok (J v))| .er e=>(e=10∨e=11)/\∃z,Ev f (.er e (b++z))
def dV.bind{α β i δ:Type}{J:β->α}{K:i->δ}{f:Nat->Option (PZ α At)}{b:At}{r:RR β}{g:α->Nat->Option (PZ δ At)}{k:β->RR i}(a:dV J f b r)(h2:∀v,r=.ok v->dV K (g (J v)) b (k v)):
  dV K (λn=>(f n).bind (PZ.el (λx=>g x n) (λe z=>some (.er e z)))) b (r.thn k):=by
 cases r with|er e=>let⟨c,z,d⟩:=a;exact⟨c,z,e_0 d Cu⟩|ok v=>have h:=h2 v rfl;show dV K _ b (k v);cases j:k v with|ok w=>rw[j]at h;exact e_0 a h|er e=>rw[j]at h;let⟨c,z,d⟩:=h;exact⟨c,z,e_0 a d⟩
def dV.mono{α β:Type}{J:β->α}{f g:Nat->Option (PZ α At)}{b:At}{r:RR β}(h:∀v,Ev f v->Ev g v)(a:dV J f b r):dV J g b r:=by cases r with|ok v=>exact h _ a|er e=>let⟨c,z,d⟩:=a;exact⟨c,z,h _ d⟩
def dV.succ{α β:Type}{J:β->α}{f:Nat->Option (PZ α At)}{b:At}{r:RR β}(h:dV J (λn=>f (n+1)) b r):dV J f b r:=dV.mono (λ_=>Ev.succ) h
abbrev vb(b:At)(v:Val):Val×At:=(v,b)
def dV.same{f:Nat->Option (PZ (Val×At) At)}{b:At}{r:VR}(h:dV (vb b) f b r):dV (vb b) (λn=>(f n).bind (PZ.el (λx=>some (.ok (x.1,x.2))) (λe z=>some (.er e z)))) b r:=by cases r with|ok v=>exact e_0 h Cu|er e=>let⟨a,z,c⟩:=h;exact⟨a,z,e_0 c Cu⟩
def Er{β:Type}(r:RR β):Prop:=∀e,r=.er e->e=10∨e=11
def Er.ok{β:Type}(v:β):Er (.ok v):=λe h=>by cases h
def Er.e10{β:Type}:Er (.er 10:RR β):=λe h=>by cases h;exact .inl rfl
def Er.e11{β:Type}:Er (.er 11:RR β):=λe h=>by cases h;exact .inr rfl
def Er.cnd{β:Type}{b:Bool}{x y:RR β}(h:Er x)(h2:Er y):Er (cond b x y):=by grind
def dV.pure{f:Nat->Option (PZ Val Unit)}{r:VR}{b:At}(h:Ev f (pz r))(a:Er r):dV (vb b) (λn=>(f n).bind (PZ.el (λx=>some (.ok (x,b))) (λe _=>some (.er e b)))) b r:=by cases r with|ok v=>exact e_0 h Cu|er e=>exact⟨a e rfl,[],e_0 h (by rw[qAt];exact Cu)⟩
def Er.int(n:Int):Er (gM n):=Er.cnd Er.e11 (Er.ok _)
def Er.bnd(l:Af):Er (bF l):=Er.cnd Er.e11 (Er.ok _)
def Er.apply(op:Int)(a b:Val):Er (CG op a b):=by
 have hA:Er (LV a b):=by
  unfold LV;split;·exact Er.ok _
  exact Er.e10
 have c:Er (match a.kids with|[]=>(.er 10:VR)|x::_=>.ok x):=by split;exact Er.e10;exact Er.ok _
 have d:Er (match a.kids.getLast? with|none=>(.er 10:VR)|some x=>.ok x):=by split;exact Er.e10;exact Er.ok _
 have r:Er (ai1 op a.n b.n):=Er.cnd (Er.int _) (Er.cnd (Er.int _) (Er.cnd (Er.int _) (Er.cnd (Er.int _) (Er.cnd (Er.cnd Er.e10 (Er.int _)) (Er.cnd Er.e10 (Er.int _))))));have s:Er (sF op a b):=by have o:=λl=>Er.ok (β:=Af) l;have f:Er (l8 op a.kids b.kids):=Er.cnd (o _) (Er.cnd Er.e11 (o _));exact Er.cnd (Er.cnd Er.e11 (o _)) (Er.cnd (o _) (Er.cnd (o _) (Er.cnd (o _) (Er.cnd (Er.cnd Er.e11 (o _)) (Er.cnd (o _) (Er.cnd (o _) (Er.cnd (o _) (Er.cnd (o _) (Er.cnd (o _) (Er.cnd (o _) (Er.cnd (Er.cnd Er.e11 (o _)) (Er.cnd (o _) (Er.cnd (o _) (Er.cnd (o _) (Er.cnd (o _) f)))))))))))))))
 have t:Er ((sF op a b).thn bF):=by cases q:sF op a b with|ok l=>exact Er.bnd l|er e=>exact λg h=>by cases h;exact s e q
 have o:=λv=>Er.ok (β:=Val) v;exact Er.cnd (o _) (Er.cnd (o _) (Er.cnd (o _) (Er.cnd (o _) (Er.cnd (o _) (Er.cnd (o _) (Er.cnd (o _) (Er.cnd (o _) (Er.cnd (o _) (Er.cnd hA (Er.cnd r (Er.cnd (Er.int _) (Er.cnd c (Er.cnd d t)))))))))))))
section
variable {cs:A7}{ds:A4}{sz:A2}{m:List (Str×Val)}{g:Str→Val}
def nK(cs:A7)(ds:A4)(sz:A2)(m:List (Str×Val))(g:Str->Val)(t:Tm)(b:At):Prop:=dV (vb b.reverse) (λn=>aM n cs ds sz m b.reverse t) b.reverse (aj g t b)
def ahl{op:Int}{nm:Str}{k:Int}{u:Ty}{x y:Tm}{b:At}(o:op=4∨op=5∨op=6)(a:nK cs ds sz m g x b)(c:nK cs ds sz m g y b):
  dV (vb b.reverse) (λn=>dD n cs ds sz m b.reverse (.mk op nm k u [x,y])) b.reverse (aj g (.mk op nm k u [x,y]) b):=by
 rw[bG];refine dV.succ ?_;show dV _ (λn=>tV n _ _ _ _ _ (aM n) _ _ _ _ _ _ _) _ _;unfold tV;have e:Za g op nm k ([x,y].map (nu g)) b=(aj g x b).thn λp=>cond (op==4&&!(p.n==1)) (.ok (aO false)) (cond ((op==5&&p.n==1) ||(op==6&&!(p.n==1))) (.ok (aO true)) (aj g y b)):=by rcases o with rfl|rfl|rfl<;>rfl
 rw[e];refine dV.bind (K:=vb b.reverse) (f:=λn=>aM n cs ds sz m b.reverse x) a λp _=>?_;have s:=dV.same c;have d:dV (vb b.reverse) (λn=>(bN n false).bind λ(v:Val)=>some (.ok (v,b.reverse))) b.reverse (.ok (aO false)):=e_0 (CQ _) Cu;have t:dV (vb b.reverse) (λn=>(bN n true).bind λ(v:Val)=>some (.ok (v,b.reverse))) b.reverse (.ok (aO true)):=e_0 (CQ _) Cu;rcases o with rfl|rfl|rfl
 ·cases h:(p.n==1)
  ·simp only[vb,h];exact d
  simp only[vb,h];exact s
 ·cases h:(p.n==1)
  ·simp only[vb,h];exact s
  simp only[vb,h];exact t
 cases h:(p.n==1);·simp only[vb,h];exact t
 simp only[vb,h];exact s
def stB(op:Int)(x y:Val)(s:Af×Bool×Bool):Af×Bool×Bool:=cond (op==56) (s.1++[aG x y],s.2.1,s.2.2) (cond (y.n==1) (s.1++[x],true,s.2.2) (s.1,s.2.1,false))
def Ol(op:Int):Af->Af->Af×Bool×Bool->Af×Bool×Bool|x::a,y::b,s=>Ol op a b (stB op x y s)|_,_,s=>s
def atM(n:Nat)(x y:Val)(op:Int)(nm:Str)(k q:Int)(r:Str)(t:A3)(b:Bi)(l:Af)(s a:Bool)(c:l.length<=1000000):tQ n x y op nm k q r t b l s a=some (stB op x y (l,s,a)):=by
 have h:∀v:Val,upd (l++[Val.mk 0 0 [] []]) (l.length:Int) v=l++[v]:=λv=>by
  unfold upd
  simp_all
 unfold tQ stB;rw[dQ Cp];cases op==56
 ·cases y.n==1
  ·rfl
  simp only[c_0,c_1,qAb,gJ,h]
 simp only[qAb,gJ,h];rfl
def YS(l:At)(a b:Bound):idx (l++[a]) (((l++[a]).length:Int) - 1)=some a/\upd (l++[a]) (((l++[a]).length:Int) - 1) b=l++[b]:=by
 have e:(((l++[a]).length:Int) - 1)=(l.length:Int):=by simp
 rw[e,gJ];unfold upd
 simp_all
def aFo(op:Int)(x y:Val)(s:Af×Bool×Bool):(stB op x y s).1.length<=s.1.length+1:=by
 unfold stB
 grind
def ai4(cs:A7)(ds:A4)(sz:A2)(m:List (Str×Val))(t:Tm)(v:Val×At)(n:Nat):=pq n (bJ n) (bK n) (bI n) (dw n) (dJ n) (aM n) (dD n) cs ds sz m t t.op t.name t.n t.ty.kind t.ty.name t.ty.kids t.kids v
def apv(cs:A7)(ds:A4)(sz:A2)(m:List (Str×Val))(t:Tm)(v:Val×At)(n k:Nat):=aL (ai4 cs ds sz m t v n) k
theorem alT(cs:A7)(ds:A4)(sz:A2)(m:List (Str×Val))(t:Tm)(v:Val×At)(n k:Nat)(s:Int×Bool×Bool×At×Af):apv cs ds sz m t v n (k+1) s=ai4 cs ds sz m t v n (apv cs ds sz m t v n k) s:=rfl
def ayB{op:Int}{nm:Str}{k:Int}{u:Ty}{x y:Tm}{d:At}(v:Val):∀(f p:Af) (s:Af×Bool×Bool) (w:Val),v.kids=p++f->s.1.length+f.length<=1000->(∀a∈f,nK cs ds sz m g y (⟨nm,a⟩::d))->
  ∃N,∃z,∃F:Af,((∀e,fH (aj g y) nm d f=.er e->e=10∨e=11))/\∀n,N<=n->∀j,f.length+1<=j->
   apv cs ds sz m (.mk op nm k u [x,y]) (v,d.reverse) n j ((p.length:Int),s.2.1,s.2.2,d.reverse++[⟨nm,w⟩],s.1)
   =some (match fH (aj g y) nm d f with
    | .ok C=>.nx ((Ol op f C s).2.1,(Ol op f C s).2.2,d.reverse++[⟨nm,(f.getLast?).getD w⟩],(Ol op f C s).1)
    | .er e=>.rt (.er e (d.reverse++z,F))):=by
 intro f
 induction f with
 |nil=>
  intro p s w o _ _;refine⟨0,[],[],(λe h=>by cases h),λn _ j G=>?_⟩;obtain⟨j,rfl⟩:∃q,j=q+1:=⟨j - 1,by omega⟩;rw[alT];unfold ai4 pq;rw[d_0 (by rw[o];simp)];rfl
 |cons a f L=>
  intro p s w o M I;have t:=I a cn;unfold nK at t;have J:idx v.kids (p.length:Int)=some a:=(bg o).2;have A:=(bg o).1;have i:fH (aj g y) nm d (a::f)=match aj g y (⟨nm,a⟩::d)with| .er e=>.er e| .ok b=>(match fH (aj g y) nm d f with| .er e=>.er e| .ok l=>.ok (b::l)):=by
   unfold fH;rw[qAy];cases aj g y (⟨nm,a⟩::d)<;>rfl
  simp only[qAp]at M;cases r:aj g y (⟨nm,a⟩::d)with
  |er e=>
   rw[r]at t;let⟨O,z,N,D⟩:=t;refine⟨N,⟨nm,a⟩::z,s.1,λP h=>?_,λn K j G=>?_⟩
   ·rw[i,r]at h;cases h;exact O
   obtain⟨j,rfl⟩:∃q,j=q+1:=⟨j - 1,by omega⟩;have D:aM n cs ds sz m (Bound.mk nm a::d).reverse y=_:=D n K;rw[qDh,qAm]at D;rw[alT];unfold ai4 pq;rw[A,i,r];simp only[c_1,J,qAb,(YS d.reverse ⟨nm,w⟩ ⟨nm,a⟩).1,(YS d.reverse ⟨nm,w⟩ ⟨nm,a⟩).2,Tm.kids,show idx [x,y] 1=some y from rfl];rw[D];rfl
  |ok b=>
   rw[r]at t;let⟨Q,B⟩:=t;let⟨R,z,F,S,H⟩:=L (p++[a]) (stB op a b s) a (by simp[o]) (by have:=aFo op a b s;omega) (λc T=>I c (by simp[T]));refine⟨Q+R,z,F,λe h=>?_,λn K j G=>?_⟩
   ·rw[i,r]at h;cases E:fH (aj g y) nm d f with
    |ok l=>rw[E]at h;cases h
    |er P=>rw[E]at h;cases h;exact S _ E
   obtain⟨j,rfl⟩:∃q,j=q+1:=⟨j - 1,by omega⟩;have B:aM n cs ds sz m (Bound.mk nm a::d).reverse y=_:=B n Cl;simp only[vb]at B;rw[qDh]at B;have H:=H n Cl j (by simp at G;omega);rw[alT];unfold ai4 pq;rw[A,i,r];simp only[c_1,J,qAb,(YS d.reverse ⟨nm,w⟩ ⟨nm,a⟩).1,(YS d.reverse ⟨nm,w⟩ ⟨nm,a⟩).2,Tm.kids,show idx [x,y] 1=some y from rfl,B,PZ.el];rw[atM n _ _ _ _ _ _ _ _ _ _ _ _ Cl];simp only[qAb];rw[show(p.length:Int)+1=((p++[a]).length:Int) by simp];refine H.trans ?_;cases E:fH (aj g y) nm d f with
   |er e=>rfl
   |ok C=>
    cases f with
    |nil=>rfl
    |cons c f=>rfl
def ak0(op:Int):∀(xs ys:Af) (s:Af×Bool×Bool),ys.length=xs.length->Ol op xs ys s=(s.1++(xs.zip ys).flatMap (λp=>cond (op==56) [aG p.1 p.2] (cond (p.2.n==1) [p.1] [])),cond (op==56) s.2.1 (s.2.1 ||ys.any λy=>y.n==1),cond (op==56) s.2.2 (s.2.2&&ys.all λy=>y.n==1))|[],[],s,_=>by let⟨a,b,c⟩:=s;cases q:(op==56)<;>simp[Ol]|[],y::ys,s,h=>by simp at h|x::xs,[],s,h=>by simp at h|x::xs,y::ys,s,h=>by rw[Ol,ak0 op xs ys _ (by simpa using h)];unfold stB;let⟨a,b,c⟩:=s;cases q:(op==56)<;>cases d:(y.n==1)<;>simp[d]
def alV{α:Type}(f:α->VR)(xs:List α)(ys:Af)(h:aN (xs.map f)=.ok ys):ys.length=xs.length:=(seq_ok f xs ys h).1
def aAp{op:Int}{nm:Str}{k:Int}{u:Ty}{x y:Tm}{b:At}(t:bY op=true)(C:nK cs ds sz m g x b)(hb:b.length<=1000)(L:∀v,aj g x b=.ok v->v.kids.length<=256)(Q:∀v,aj g x b=.ok v->∀a∈v.kids,nK cs ds sz m g y (⟨nm,a⟩::b)):
  dV (vb b.reverse) (λn=>dJ n cs ds sz m b.reverse (.mk op nm k u [x,y])) b.reverse (aj g (.mk op nm k u [x,y]) b):=by
 have R:dV (λ(q:Af×Bool×Bool)=>(b.reverse,q.1,q.2.1,q.2.2)) (λn=>(dw n cs ds sz m b.reverse (.mk op nm k u [x,y]) op nm k u.kind u.name u.kids [x,y] [] false true).bind λr=>some (match r with| .ok a=>PZ.ok a| .er e z=>.er e z.1)) b.reverse
   ((aj g x b).thn λs=>(fH (aj g y) nm b s.kids).thn λc=>RR.ok (Ol op s.kids c ([],false,true))):=by
  refine dV.mono (f:=λn=>(dw (n+1) cs ds sz m b.reverse (.mk op nm k u [x,y]) op nm k u.kind u.name u.kids [x,y] [] false true).bind λr=>some (match r with| .ok a=>PZ.ok a| .er e z=>.er e z.1)) (λv h=>Ev.succ h) ?_
  show dV _ (λn=>(zu n _ _ _ _ _ (aM n) _ _ _ _ _ _ _ _ _ _ _ _ _ _ _ _ _).bind _) _ _;unfold zu;unfold nK at C;cases D:aj g x b with|er e=>rw[D]at C;let⟨S,z,T⟩:=C;show dV _ _ _ (RR.er e);exact⟨S,z,e_0 (e_0 (a:=x) (Ev.of λ_=>rfl) (e_0 T Cu)) Cu⟩|ok v=>
   rw[D]at C;let⟨N,z,lz,U,M⟩:=ayB (op:=op) (k:=k) (u:=u) (x:=x) v v.kids [] ([],false,true) v0 rfl (by have:=L v D;simp;omega) (Q v D);let⟨G,A⟩:=C;have i:app 72 b.reverse [Bound.mk nm (Val.mk 0 0 [] [])]=some (b.reverse++[⟨nm,v0⟩]):=by unfold app;rw[if_pos ⟨by simp;omega,by simp;omega⟩];rfl
   have O:∀n,N+G+v.kids.length+1<=n->apv cs ds sz m (.mk op nm k u [x,y]) (v,b.reverse) n n (0,false,true,b.reverse++[⟨nm,v0⟩],[])=_:=λn B=>M n Cl n Cl;have E:∀(w:Bound),((FJ (List.length (b.reverse++[w])) (((b.reverse++[w]).length:Int) - 1)).bind λ(F:Nat)=>cond (Nat.ble F (List.length (b.reverse++[w]))) (some (List.take F (b.reverse++[w]))) none)=some b.reverse:=by intro w;unfold FJ;rw[show(((b.reverse++[w]).length:Int) - 1)=(b.reverse.length:Int) by simp,if_pos ⟨by omega,by simp;omega⟩,qBM];simp only[qAb];rw[show Nat.ble b.reverse.length (b.reverse++[w]).length=true by rw[Nat.ble_eq];simp];simp
   show dV _ (λn=>_) _ ((fH (aj g y) nm b v.kids).thn λc=>RR.ok (Ol op v.kids c ([],false,true)));cases d:fH (aj g y) nm b v.kids with|er e=>show dV _ _ _ (RR.er e);refine⟨U e d,z,N+G+v.kids.length+1,λn B=>?_⟩;have A:aM n cs ds sz m b.reverse x=_:=A n Cl;have j:=O n B;rw[d]at j;change BR n _ _ _ _ _ _ _ _ _ _ _ (Tm.mk op nm k u [x,y]) op nm k u.kind u.name u.kids [x,y] _ _ _=_ at j;simp only[Tm.kids,Tm.name,show idx [x,y] 0=some x from rfl,qAb,A,PZ.el,vb,i];rw[j];rfl|ok c=>
    show dV _ _ _ (RR.ok _);refine⟨N+G+v.kids.length+1,λn B=>?_⟩;have A:aM n cs ds sz m b.reverse x=_:=A n Cl;have j:=O n B;rw[d]at j;change BR n _ _ _ _ _ _ _ _ _ _ _ (Tm.mk op nm k u [x,y]) op nm k u.kind u.name u.kids [x,y] _ _ _=_ at j;simp only[Tm.kids,Tm.name,show idx [x,y] 0=some x from rfl,qAb,A,PZ.el,vb,i];rw[j];have l:=E ⟨nm,v.kids.getLast?.getD v0⟩;simp only[qAb,LR.el];unfold FJ at l|-;split at l
    ·rename_i V;rw[if_pos V];simp only[qAb]at l|-;generalize Nat.ble _ _=W at l|-;cases W with|false=>cases l|true=>simp only[c_1,qAb]at l|-;rw[Option.some.inj l]
    cases l
 rw[bG];have e:Za g op nm k ([x,y].map (nu g)) b=(aj g x b).thn λs=>(fH (aj g y) nm b s.kids).thn λc=>nZ op s.kids c:=by unfold bY at t;simp only[qBe,beq_iff_eq]at t;rcases t with rfl|rfl|rfl|rfl<;>rfl
 rw[e];refine dV.succ ?_;show dV _ (λn=>vT n _ _ _ (dw n) _ _ _ _ _ _ _ _ _) _ _;unfold vT;have H:dV (vb b.reverse) (λn=>((dw n cs ds sz m b.reverse (.mk op nm k u [x,y]) op nm k u.kind u.name u.kids [x,y] [] false true).bind λr=>some (match r with| .ok a=>PZ.ok a| .er e z=>.er e z.1)).bind (PZ.el (λ(o:At×Af×Bool×Bool)=>cond (op==8) ((bN n o.2.2.2).bind λ(X:Val)=>some (.ok (X,o.1))) (cond (op==9) ((bN n o.2.2.1).bind λ(Y:Val)=>some (.ok (Y,o.1))) ((Ab n o.2.1).bind (PZ.el (λ(F:Val)=>some (.ok (F,o.1))) (λ(Z:Int) _=>some (.er Z o.1)))))) (λ(I:Int) z2=>some (.er I z2)))) b.reverse
   ((aj g x b).thn λs=>(fH (aj g y) nm b s.kids).thn λc=>nZ op s.kids c):=by
  have I:((aj g x b).thn λs=>(fH (aj g y) nm b s.kids).thn λc=>nZ op s.kids c)=((aj g x b).thn λs=>(fH (aj g y) nm b s.kids).thn λc=>RR.ok (Ol op s.kids c ([],false,true))).thn λq=>cond (op==8) (.ok (aO q.2.2)) (cond (op==9) (.ok (aO q.2.1)) (bF q.1)):=by
   cases D:aj g x b with|er e=>rfl|ok v=>show(fH (aj g y) nm b v.kids).thn _=((fH (aj g y) nm b v.kids).thn _).thn _;cases d:fH (aj g y) nm b v.kids with|er e=>rfl|ok c=>show nZ op v.kids c=cond (op==8) _ _;rw[ak0 op v.kids c _ (alV _ _ _ d)];unfold nZ;unfold bY at t;simp only[qBe,beq_iff_eq]at t;rcases t with rfl|rfl|rfl|rfl<;>rfl
  rw[I];refine dV.bind (K:=vb b.reverse) R λq d=>?_;let⟨v,hv,d⟩:=then_ok d;let⟨c,J,d⟩:=then_ok d;cases d;have P:(Ol op v.kids c ([],false,true)).1.length<=256:=by
   rw[ak0 op v.kids c _ (alV _ _ _ J)];have:=iF (λ(p:Val×Val)=>cond (op==56) [aG p.1 p.2] (cond (p.2.n==1) [p.1] [])) 1 (v.kids.zip c) (λp _=>by cases op==56<;>cases p.2.n==1<;>simp);have M:=L v hv;have j:(v.kids.zip c).length<=v.kids.length:=by rw[qDt];omega
   simp only[qAo];omega
  cases op==8 with|true=>exact e_0 (CQ _) Cu|false=>cases op==9 with|true=>exact e_0 (CQ _) Cu|false=>exact dV.pure (aqR (show(Ol op v.kids c ([],false,true)).1.length*56<=_ by omega)) (Er.bnd _)
 refine dV.mono (λv h=>?_) H;let⟨N,h⟩:=h;refine⟨N,λn B=>?_⟩;rw[<-h n B];simp only[qAb,Tm.op,Tm.name,Tm.n,Tm.ty,Tm.kids];cases dw n cs ds sz m b.reverse (.mk op nm k u [x,y]) op nm k u.kind u.name u.kids [x,y] [] false true with|none=>rfl|some r=>cases r<;>rfl
def ar5{σ:Type}(f:Tm->VR)(b:At)(c:Tm->At):∀(k:Bi) (a:Af),∃z,fG (λx a=>match f x with| .ok v=>LR.nx (a++[v])| .er e=>.rt (PZ.er (α:=σ) e (b++c x))) (λa=>(a,b)) k a=match aN (k.map f)with| .ok l=>.nx (a++l,b)| .er e=>.rt (.er e (b++z))
 |[],a=>⟨[],by simp[fG,aN]⟩|x::k,a=>by
  rw[qAy];cases d:f x with|er e=>exact⟨c x,by simp only[fG,d,aN]⟩|ok v=>
   obtain⟨z,h⟩:=ar5 f b c k (a++[v]);refine⟨z,?_⟩;simp only[fG,d,aN];rw[h];cases aN (k.map f)with|er e=>rfl|ok l=>simp
def ajc{α:Type}(f:α->VR):∀(xs:List α),(∀x∈xs,Er (f x))->Er (aN (xs.map f))
 |[],_=>Er.ok _
 |x::xs,h=>by
  have c:=h x cn;have d:=ajc f xs λy g=>h y (by simp[g]);intro e a;rw[qAy]at a;cases b:f x with
  |er i=>rw[b]at a;cases a;exact c _ b
  |ok v=>
   rw[b]at a;unfold aN at a;cases s:aN (xs.map f)with
   |ok l=>rw[s]at a;cases a
   |er i=>rw[s]at a;cases a;exact d _ s
def nK.er{t:Tm}{b:At}(h:nK cs ds sz m g t b):Er (aj g t b):=λe a=>by unfold nK at h;rw[a]at h;exact h.1
def aLt(cs:A7)(ds:A4)(sz:A2)(m:List (Str×Val))(t:Tm)(n:Nat):=Ky n (bJ n) (bK n) (bI n) (dw n) (dJ n) (aM n) (dD n) cs ds sz m t
def axc(cs:A7)(ds:A4)(sz:A2)(m:List (Str×Val))(t:Tm)(n:Nat):=oH n (bJ n) (bK n) (bI n) (dw n) (dJ n) (aM n) (dD n) cs ds sz m t
def aAd{nm:Str}{k:Int}{u:Ty}{a:Bi}{b:At}(h:∀x∈a,nK cs ds sz m g x b)(K:a.length<=1000000):
  dV (vb b.reverse) (λn=>(aLt cs ds sz m (.mk 28 nm k u a) n n (([]:Af),0,b.reverse)).bind (LR.el (λ(A:Af×At)=>(Ab n A.1).bind (PZ.el (λ(B:Val)=>some (.ok (B,A.2))) (λ(C:Int) _=>some (.er C A.2)))) (λr=>some r))) b.reverse ((aN (a.map λt=>aj g t b)).thn bF):=by
 have D:∀x:Tm,∃z,x∈a->∀e,aj g x b=.er e->Ev (λn=>aM n cs ds sz m b.reverse x) (.er e (b.reverse++z)):=λx=>by
  by_cases o:x∈a;·have d:=h x o;unfold nK at d;cases y:aj g x b with|ok v=>exact⟨[],λ_ e E=>by cases E⟩|er e=>rw[y]at d;let⟨_,z,D⟩:=d;exact⟨z,λ_ I E=>by cases E;exact D⟩
  simp_all
 let⟨J,F⟩:=qCu D;have d:=wI (Tm.mk 28 nm k u a).kids (axc cs ds sz m (.mk 28 nm k u a)) (λi s=>(s,i,b.reverse)) (λx c=>match aj g x b with| .ok v=>LR.nx (c++[v])| .er e=>.rt (PZ.er e (b.reverse++J x))) (λc=>(c,b.reverse)) (λp c=>c.length+p.length<=1000000) (λn q s=>by unfold axc oH;rw[at_end];rfl) (λL x p s e M=>by
  have o:x∈a:=by have e:a=_:=e;simp[e]
  have G:=h x o;unfold nK at G;simp only[qAp]at M;cases y:aj g x b with|er I=>let⟨N,j⟩:=F x o I y;refine⟨⟨N,λn H q=>?_⟩,λO f=>by cases f⟩;have j:aM n cs ds sz m b.reverse x=_:=j n H;unfold axc oH;rw[(bg e).1];simp only[c_1,(bg e).2,qAb,j,PZ.el]|ok v=>rw[y]at G;let⟨N,j⟩:=G;refine⟨⟨N,λn H q=>?_⟩,λO f=>by cases f;simp;omega⟩;have j:aM n cs ds sz m b.reverse x=_:=j n H;unfold axc oH;rw[(bg e).1];simp only[c_1,(bg e).2,qAb,j,PZ.el,vb];rw[dQ Cp];rfl) (s0:=[]) (qAs (qBm (qAL _)) K)
 let⟨z,w⟩:=ar5 (σ:=Val×At) (λt=>aj g t b) b.reverse J a [];have d:=Ev.eq d w;cases f:aN (a.map λt=>aj g t b)with|er e=>rw[f]at d;exact⟨ajc _ a (λx o=>(h x o).er) e f,z,e_0 d Cu⟩|ok l=>rw[f]at d;have P:=alV _ _ _ f;refine dV.mono (λv Q=>e_0 d Q) ?_;exact dV.pure (aqR (by simp only[qAo];omega)) (Er.bnd _)
abbrev LSt:Type:=Int×Int×Int×Str×Af×Int×Int×Str×Af×At
def Lx(cs:A7)(ds:A4)(sz:A2)(m:List (Str×Val))(t:Tm)(n:Nat):=gN n (bJ n) (bK n) (bI n) (dw n) (dJ n) (aM n) (dD n) cs ds sz m t
def LB(cs:A7)(ds:A4)(sz:A2)(m:List (Str×Val))(t:Tm)(n k:Nat):=aL (Lx cs ds sz m t n) k
theorem Qx(t:Tm)(n k:Nat)(s:LSt):LB cs ds sz m t n (k+1) s=Lx cs ds sz m t n (LB cs ds sz m t n k) s:=rfl
abbrev asw(op:Int)(n:Nat):LR (Int×Int×Str×Af×Int×Int×Str×Af×At) (PZ (Val×At) At)->Option (PZ (Val×At) At):=LR.el (λ(s:Int×Int×Str×Af×Int×Int×Str×Af×At)=>(oz n op (Val.mk s.1 s.2.1 s.2.2.1 s.2.2.2.1) (Val.mk s.2.2.2.2.1 s.2.2.2.2.2.1 s.2.2.2.2.2.2.1 s.2.2.2.2.2.2.2.1)).bind (PZ.el (λ(x:Val)=>some (.ok (x,s.2.2.2.2.2.2.2.2))) (λ(e:Int) _=>some (.er e s.2.2.2.2.2.2.2.2)))) (λr=>some r)
def alv(v:Val):Val.mk v.kind v.n v.name v.kids=v:=by cases v;rfl
def aGd{op:Int}{nm:Str}{k:Int}{u:Ty}{x:Tm}{b:At}(o:(op==28)=false)(h:nK cs ds sz m g x b)(hA:∀a,aj g x b=.ok a->Ev (λn=>oz n op a v0) (pz (CG op a v0))):
  dV (vb b.reverse) (λn=>(LB cs ds sz m (.mk op nm k u [x]) n n (0,0,0,([]:Str),([]:Af),0,0,([]:Str),([]:Af),b.reverse)).bind (asw op n)) b.reverse ((aN [aj g x b]).thn (bB op)):=by
 unfold nK at h;cases r:aj g x b with|er e=>rw[r]at h;let⟨p,z,N,c⟩:=h;refine⟨p,z,N+2,λn q=>?_⟩;have c:aM n cs ds sz m b.reverse x=_:=c n Cl;obtain⟨j,rfl⟩:∃j,n=j+2:=⟨n - 2,by omega⟩;dsimp only;rw[Qx];unfold Lx gN;simp only[Tm.kids,show idx [x] 0=some x from rfl,qAb,c]<;>rfl|ok a=>
  rw[r]at h;let⟨N,d⟩:=h;have hA:=hA a r;have e:(aN [(.ok a:VR)]).thn (bB op)=CG op a v0:=by unfold bB;rw[o];rfl
  rw[e];refine dV.mono (f:=λn=>(oz n op a v0).bind (PZ.el (λ(i:Val)=>some (.ok (i,b.reverse))) (λ(l:Int) _=>some (.er l b.reverse)))) (λv t=>?_) (dV.pure hA (Er.apply op a v0));let⟨M,w⟩:=t;refine⟨N+M+2,λn q=>?_⟩;rw[<-w n Cl];have d:aM n cs ds sz m b.reverse x=_:=d n Cl;have y:n=(n - 2)+1+1:=by omega
  have A:LB cs ds sz m (.mk op nm k u [x]) n n (0,0,0,([]:Str),([]:Af),0,0,([]:Str),([]:Af),b.reverse)=some (.nx (a.kind,a.n,a.name,a.kids,0,0,[],[],b.reverse)):=by
   conv=>lhs;arg 7;rw[y]
   rw[Qx];unfold Lx gN;simp only[Tm.kids,c_1,show idx [x] 0=some x from rfl,qAb,d,PZ.el,LR.el,show((0:Int)==0)=true from rfl];rw[show ∀s,LB cs ds sz m (.mk op nm k u [x]) n (n - 2+1) s=Lx cs ds sz m (.mk op nm k u [x]) n (LB cs ds sz m (.mk op nm k u [x]) n (n - 2)) s from λs=>Qx _ _ _ s];rfl
  simp only[A,qAb,asw,LR.el,alv];rfl
def aGG{op:Int}{nm:Str}{k:Int}{u:Ty}{x y:Tm}{c:At}(o:(op==28)=false)(i:nK cs ds sz m g x c)(l:nK cs ds sz m g y c)(hA:∀a b,aj g x c=.ok a->aj g y c=.ok b->Ev (λn=>oz n op a b) (pz (CG op a b))):
  dV (vb c.reverse) (λn=>(LB cs ds sz m (.mk op nm k u [x,y]) n n (0,0,0,([]:Str),([]:Af),0,0,([]:Str),([]:Af),c.reverse)).bind (asw op n)) c.reverse ((aN [aj g x c,aj g y c]).thn (bB op)):=by
 unfold nK at i l;have p:decide ((0:Int)<([x,y].length:Int))=true:=rfl;have E:decide ((0:Int)+1<([x,y].length:Int))=true:=rfl;have J:decide ((0:Int)+1+1<([x,y].length:Int))=false:=rfl;cases r:aj g x c with
 |er e=>
  rw[r]at i;let⟨q,z,N,h⟩:=i;show dV _ _ _ (RR.er e);refine⟨q,z,N+2,λn F=>?_⟩;have h:aM n cs ds sz m c.reverse x=_:=h n Cl;obtain⟨j,rfl⟩:∃j,n=j+2:=⟨n - 2,by omega⟩;dsimp only;rw[Qx];unfold Lx gN;simp only[Tm.kids,p,c_1,show idx [x,y] 0=some x from rfl,qAb,h,PZ.el,LR.el]<;>rfl
 |ok a=>
  rw[r]at i;let⟨N,d⟩:=i;cases t:aj g y c with
  |er e=>
   rw[t]at l;let⟨q,z,M,h⟩:=l;show dV _ _ _ (RR.er e);refine⟨q,z,N+M+3,λn F=>?_⟩;have d:aM n cs ds sz m c.reverse x=_:=d n Cl;have h:aM n cs ds sz m c.reverse y=_:=h n Cl;have w:n=(n - 2)+1+1:=by omega
   dsimp only;rw[show LB cs ds sz m (.mk op nm k u [x,y]) n n (0,0,0,([]:Str),([]:Af),0,0,([]:Str),([]:Af),c.reverse)=some (.rt (.er e (c.reverse++z))) by
    conv=>lhs;arg 7;rw[w]
    rw[Qx];unfold Lx gN;simp only[Tm.kids,p,c_1,show idx [x,y] 0=some x from rfl,qAb,d,PZ.el,LR.el,vb,show((0:Int)==0)=true from rfl];rw[show ∀s,LB cs ds sz m (.mk op nm k u [x,y]) n (n - 2+1) s=Lx cs ds sz m (.mk op nm k u [x,y]) n (LB cs ds sz m (.mk op nm k u [x,y]) n (n - 2)) s from λs=>Qx _ _ _ s];unfold Lx gN;simp only[Tm.kids,E,c_1,show idx [x,y] (0+1)=some y from rfl,qAb,h,PZ.el,LR.el];rfl]
   rfl
  |ok b=>
   rw[t]at l;let⟨M,A⟩:=l;have hA:=hA a b r t;have e:(aN [(.ok a:VR),.ok b]).thn (bB op)=CG op a b:=by
    show bB op [a,b]=_;unfold bB;rw[o];rfl
   rw[e];refine dV.mono (f:=λn=>(oz n op a b).bind (PZ.el (λ(B:Val)=>some (.ok (B,c.reverse))) (λ(C:Int) _=>some (.er C c.reverse)))) (λv G=>?_) (dV.pure hA (Er.apply op a b));let⟨L,H⟩:=G;refine⟨N+M+L+3,λn F=>?_⟩;rw[<-H n Cl];have d:aM n cs ds sz m c.reverse x=_:=d n Cl;have A:aM n cs ds sz m c.reverse y=_:=A n Cl;have w:n=(n - 3)+1+1+1:=by omega
   have D:∀j s,LB cs ds sz m (.mk op nm k u [x,y]) n (j+1) s=Lx cs ds sz m (.mk op nm k u [x,y]) n (LB cs ds sz m (.mk op nm k u [x,y]) n j) s:=λj s=>Qx _ _ _ s;have I:LB cs ds sz m (.mk op nm k u [x,y]) n n (0,0,0,([]:Str),([]:Af),0,0,([]:Str),([]:Af),c.reverse)=some (.nx (a.kind,a.n,a.name,a.kids,b.kind,b.n,b.name,b.kids,c.reverse)):=by
    conv=>lhs;arg 7;rw[w]
    rw[D];unfold Lx gN;simp only[Tm.kids,p,c_1,show idx [x,y] 0=some x from rfl,qAb,d,PZ.el,LR.el,vb,show((0:Int)==0)=true from rfl];rw[D];unfold Lx gN;simp only[Tm.kids,E,c_1,c_0,show idx [x,y] (0+1)=some y from rfl,qAb,A,PZ.el,LR.el,vb,show((0:Int)+1==0)=false from rfl,show((0:Int)+1==1)=true from rfl];rw[D];unfold Lx gN;rfl
   simp only[I,qAb,asw,LR.el,alv]
def YI(n:Nat)(op:Int):yV n op=some (iO op):=by
 unfold yV iO
 grind
def avN(p:Val->Bool)(l:Af):(((l.filter p).length:Int)==(l.length:Int))=l.all p:=by rw[qCe,beq_iff_eq,qAP,Int.natCast_inj,List.length_filter_eq_length_iff]
def aJc{y:Tm}{b:At}(hs:iO y.op=false)(h:nK cs ds sz m g y b):dV (λl:Af=>((l.headD v0).kids,b.reverse)) (λn=>bI n cs ds sz m b.reverse y) b.reverse (aN [aj g y b]):=by refine dV.succ ?_;show dV _ (λn=>rR n _ _ _ _ _ (aM n) _ _ _ _ _ _ _) _ _;unfold rR;simp only[YI,hs,qAb];unfold nK at h;cases r:aj g y b with|er e=>rw[r]at h;let⟨a,z,c⟩:=h;exact⟨a,z,e_0 c Cu⟩|ok v=>rw[r]at h;exact e_0 h Cu
def aJB{nm:Str}{k:Int}{u:Ty}{z:Tm}{b:At}(h:nK cs ds sz m g z b):dV (λl:Af=>((l.headD v0).kids,b.reverse)) (λn=>bK n cs ds sz m b.reverse (.mk 46 nm k u [z])) b.reverse (aN [aj g z b]):=by refine dV.succ ?_;show dV _ (λn=>q9 n _ _ _ _ _ (aM n) _ _ _ _ _ _ _) _ _;unfold q9;simp only[YI,qAb];unfold nK at h;cases r:aj g z b with|er e=>rw[r]at h;let⟨a,w,c⟩:=h;exact⟨a,w,e_0 c Cu⟩|ok v=>rw[r]at h;exact e_0 h Cu
def aJy{op:Int}{nm:Str}{k:Int}{u:Ty}{z w:Tm}{s:At}(o:op=41∨op=42∨op=43∨op=44∨op=45)(c:nK cs ds sz m g z s)(d:nK cs ds sz m g w s):
  dV (λl:Af=>(op,nm,k,u.kind,u.name,u.kids,[z,w],(l.headD v0).kids,((l.drop 1).headD v0).kids,s.reverse)) (λn=>bJ n cs ds sz m s.reverse (.mk op nm k u [z,w])) s.reverse (aN [aj g z s,aj g w s]):=by
 refine dV.succ ?_;show dV _ (λn=>rH n _ _ _ _ _ (aM n) _ _ _ _ _ _ _) _ _;unfold rH;have h:iO op=true/\(op==46)=false:=by rcases o with rfl|rfl|rfl|rfl|rfl<;>exact⟨rfl,rfl⟩
 simp only[YI,Tm.op,h.1,h.2];have e:aN [aj g z s,aj g w s]=(aj g z s).thn λa=>(aj g w s).thn λb=>RR.ok [a,b]:=by cases aj g z s<;>cases aj g w s<;>rfl
 rw[e];exact dV.bind c λa _=>dV.bind d λb _=>Ev.ret _
theorem aGw{env:Env}(hg:Xp env sz g){op:Int}{sc:A4}{t:Ty}{y:Tm}{bs:At}(ho:op=16∨op=17∨op=18)(hs:Scp env sz sc bs)(hy:HT env sc y (au t))(hE:nK cs ds sz m g y bs)(hK:∀z∈y.kids,iO y.op=true→nK cs ds sz m g z bs)(a:Val)
  (ha:hasB env sz (cond (op==18) (au t) t) a=true) (la:a.kids.length≤256):
  dV (vb bs.reverse) (fun n=>cond (op==18)
    ((cond (decide (y.op<41) ||decide (46<y.op)) ((bI n cs ds sz m bs.reverse y).bind (PZ.el (fun(x21:Af×At)=>(Gf n a.kids x21.1).bind fun(x22:Af)=>(bN n ((x22.length:Int)==(a.kids.length:Int))).bind fun(x23:Val)=>some (.ok (x23,x21.2))) (fun(e9:Int) z9=>some (.er e9 z9)))) (cond (y.op==46) ((bK n cs ds sz m bs.reverse y).bind (PZ.el (fun(x24:Af×At)=>(Gq n a.kids x24.1).bind fun(x25:Af)=>(bN n ((x25.length:Int)==(a.kids.length:Int))).bind fun(x26:Val)=>some (.ok (x26,x24.2))) (fun(e10:Int) z10=>some (.er e10 z10)))) ((bJ n cs ds sz m bs.reverse y).bind (PZ.el (fun(x27:Int×Str×Int×Int×Str×A3×Bi×Af×Af×At)=>(Gr n a.kids x27.1 x27.2.1 x27.2.2.1 x27.2.2.2.1 x27.2.2.2.2.1 x27.2.2.2.2.2.1 x27.2.2.2.2.2.2.1 x27.2.2.2.2.2.2.2.1 x27.2.2.2.2.2.2.2.2.1).bind fun(x28:Af)=>(bN n ((x28.length:Int)==(a.kids.length:Int))).bind fun(x29:Val)=>some (.ok (x29,x27.2.2.2.2.2.2.2.2.2))) (fun(e11:Int) z11=>some (.er e11 z11)))))))
    ((cond (decide (y.op<41) ||decide (46<y.op)) ((bI n cs ds sz m bs.reverse y).bind (PZ.el (fun(x9:Af×At)=>(jM n a x9.1).bind fun(x10:Bool)=>(bN n (x10==(op==16))).bind fun(x11:Val)=>some (.ok (x11,x9.2))) (fun(e5:Int) z5=>some (.er e5 z5)))) (cond (y.op==46) ((bK n cs ds sz m bs.reverse y).bind (PZ.el (fun(x12:Af×At)=>(jP n a x12.1).bind fun(x13:Bool)=>(bN n (x13==(op==16))).bind fun(x14:Val)=>some (.ok (x14,x12.2))) (fun(e6:Int) z6=>some (.er e6 z6)))) ((bJ n cs ds sz m bs.reverse y).bind (PZ.el (fun(x15:Int×Str×Int×Int×Str×A3×Bi×Af×Af×At)=>(lF n a x15.1 x15.2.1 x15.2.2.1 x15.2.2.2.1 x15.2.2.2.2.1 x15.2.2.2.2.2.1 x15.2.2.2.2.2.2.1 x15.2.2.2.2.2.2.2.1 x15.2.2.2.2.2.2.2.2.1).bind fun(x16:Bool)=>(bN n (x16==(op==16))).bind fun(x17:Val)=>some (.ok (x17,x15.2.2.2.2.2.2.2.2.2))) (fun(e7:Int) z7=>some (.er e7 z7))))))))
   bs.reverse (X9 op (nu g y) bs a):=by
 -- what a test makes of one value, or of a set
 have fin:∀{α:Type} {J:Af→α} {f:Nat→Option (PZ α At)} {r:xU} {F:Nat→α→Af→Option Af} {D:Nat→Val→α→Ax} {B:α→At},
   dV J f bs.reverse r→(∀l,B (J l)=bs.reverse)→(∀l,r=.ok l→∀x,hasB env sz t x=true→Ev (fun n=>D n x (J l)) (iB y.op l x))→(∀l,r=.ok l→op=18→Ev (fun n=>F n (J l) a.kids) (a.kids.filter (iB y.op l)))→
   dV (vb bs.reverse) (fun n=>cond (op==18) ((f n).bind (PZ.el (fun x=>(F n x a.kids).bind fun(q:Af)=>(bN n ((q.length:Int)==(a.kids.length:Int))).bind fun(v:Val)=>some (.ok (v,B x))) (fun e z=>some (.er e z))))
    ((f n).bind (PZ.el (fun x=>(D n a x).bind fun(q:Bool)=>(bN n (q==(op==16))).bind fun(v:Val)=>some (.ok (v,B x))) (fun e z=>some (.er e z))))) bs.reverse
    (r.thn fun l=>.ok (aO (cond (op==18) (a.kids.all (iB y.op l)) (iB y.op l a==(op==16))))):=by
  intro α J f r F D B hf hB hD hF;cases h18:(op==18)with
  |true=>
   refine dV.bind hf fun l hl=>?_;have h1:=hF l hl (eq_of_beq h18);show Ev _ _;rw[cond_true,←avN,show vb bs.reverse _=(aO (((a.kids.filter (iB y.op l)).length:Int)==(a.kids.length:Int)),B (J l)) by rw[hB]];exact Ev.bind h1 (Ev.bind (CQ _) Cu)
  |false=>
   rw[h18]at ha;refine dV.bind hf fun l hl=>?_;have h1:=hD l hl a ha;show Ev _ _;rw[cond_false,show vb bs.reverse _=(aO (iB y.op l a==(op==16)),B (J l)) by rw[hB]];exact Ev.bind h1 (Ev.bind (CQ _) Cu)
 have hkids:op=18→∀x∈a.kids,hasB env sz t x=true:=fun h=>by
  subst h;obtain⟨l,rfl,_,h2⟩:=iV.1 ha;exact h2
 have S:∀{e:Ty} {w:Val},hasB env sz (au e) w=true→dO w.kids∧∀x∈w.kids,hasB env sz e x=true:=fun hw=>by
  obtain⟨l,rfl,h1,h2⟩:=iV.1 hw;exact⟨h1,h2⟩
 have la':a.kids.length≤1000000:=by omega
 have hsym:(decide (y.op<41) ||decide (46<y.op))=!(iO y.op):=by
  unfold iO
  grind
 rw[hsym];unfold X9 vv;show dV _ _ _ ((cond (iO y.op) (aN ((y.kids.map (aj g)).map fun g=>g bs)) (aN [aj g y bs])).thn _);by_cases hsy:iO y.op=true
 ·rw[hsy];cases hy with
  |fam q hq hz hw=>
   rename_i nm k u z w c d;have iz:=hK z (by simp[Tm.kids]) hsy;have iw:=hK w (by simp[Tm.kids]) hsy;have h46:(q==46)=false:=by rcases hq with rfl|rfl|rfl|rfl|rfl<;>rfl
   simp only[Tm.op,h46,cond_true,cond_false,qAv];have hT:∀l,aN [aj g z bs,aj g w bs]=.ok l→∃p r,l=[p,r]∧dO p.kids∧dO r.kids:=fun l hl=>by
    obtain⟨p,r,h1,h2,h3⟩:=seq2 (f:=fun l=>(RR.ok (mkSet l):VR)) (v:=mkSet l) (by rw[hl];rfl);cases h3;exact⟨p,r,rfl,(S (sound hg z sc _ bs p hz hs h1)).1,(S (sound hg w sc _ bs r hw hs h2)).1⟩
   have hD:∀l,aN [aj g z bs,aj g w bs]=.ok l→∀x,hasB env sz (au (aR c d)) x=true→Ev (fun n=>wu n q (l.headD v0).kids ((l.drop 1).headD v0).kids x.kids) (iB q l x):=fun l hl x hx=>by
    obtain⟨p,r,rfl,h1,h2⟩:=hT l hl;obtain⟨h3,h4⟩:=S hx;unfold iB;rw[show iO q=true from hsy,h46];exact ae6 q h1.1 h2.1 (Ap h1) (Ap h2) (fun v hv=>by
     obtain⟨s,t,rfl,_,_⟩:=qJ.1 (h4 v hv);exact⟨s,t,rfl⟩) (Ap h3)
   have h:=fin (α:=Int×Str×Int×Int×Str×A3×Bi×Af×Af×At) (F:=fun n x l=>Gr n l x.1 x.2.1 x.2.2.1 x.2.2.2.1 x.2.2.2.2.1 x.2.2.2.2.2.1 x.2.2.2.2.2.2.1 x.2.2.2.2.2.2.2.1 x.2.2.2.2.2.2.2.2.1) (D:=fun n v x=>lF n v x.1 x.2.1 x.2.2.1 x.2.2.2.1 x.2.2.2.2.1 x.2.2.2.2.2.1 x.2.2.2.2.2.2.1 x.2.2.2.2.2.2.2.1 x.2.2.2.2.2.2.2.2.1) (B:=fun x=>x.2.2.2.2.2.2.2.2.2) (aJy (nm:=nm) (k:=k) (u:=u) hq iz iw) (fun l=>rfl)
    (fun l hl x hx=>Ev.same (hD l hl x hx))
    (fun l hl h18=>D5 a.kids (fun n x=>lF n x q nm k u.kind u.name u.kids [z,w] (l.headD v0).kids ((l.drop 1).headD v0).kids) _ (fun x hx=>Ev.same (hD l hl x (hkids h18 x hx))) la')
   exact h
  |pow hz=>
   rename_i nm k u z c;have iz:=hK z (by simp[Tm.kids]) hsy;simp only[Tm.op,show((46:Int)==46)=true from rfl,cond_true,cond_false,qAv];have hD:∀l,aN [aj g z bs]=.ok l→∀x,hasB env sz (au c) x=true→Ev (fun n=>jP n x (l.headD v0).kids) (iB 46 l x):=fun l hl x hx=>by
    obtain⟨p,h1,h3⟩:=seq1 (f:=fun l=>(RR.ok (mkSet l):VR)) (v:=mkSet l) (by rw[hl];rfl);cases h3;have hp:=(S (sound hg z sc _ bs p hz hs h1)).1;have hx:=(S hx).1;show Ev _ (x.kids.all (aF p.kids));rw[←avN];exact Ev.bind (D5 x.kids (fun n v=>vO n v p.kids) (aF p.kids) (fun v _=>hp.has v) (Ap hx)) Cu
   have h:=fin (α:=Af×At) (F:=fun n x l=>Gq n l x.1) (D:=fun n v x=>jP n v x.1) (B:=fun x=>x.2) (aJB (nm:=nm) (k:=k) (u:=u) iz) (fun l=>rfl) hD
    (fun l hl h18=>D5 a.kids (fun n x=>jP n x (l.headD v0).kids) _ (fun x hx=>hD l hl x (hkids h18 x hx)) la')
   exact h
  |bin q hq=>rcases hq with rfl|rfl|rfl<;>cases hsy
  |dres q hq=>rcases hq with rfl|rfl<;>cases hsy
  |rres q hq=>rcases hq with rfl|rfl<;>cases hsy
  |_=>cases hsy
 ·rw[qDp]at hsy;rw[hsy];simp only[cond_true,cond_false,qBb];have hD:∀l,aN [aj g y bs]=.ok l→∀x:Val,Ev (fun n=>jM n x (l.headD v0).kids) (iB y.op l x):=fun l hl x=>by
   obtain⟨p,h1,h3⟩:=seq1 (f:=fun l=>(RR.ok (mkSet l):VR)) (v:=mkSet l) (by rw[hl];rfl);cases h3;have hp:=(S (sound hg y sc _ bs p hy hs h1)).1;unfold iB;rw[hsy];exact hp.has x
  have h:=fin (α:=Af×At) (F:=fun n x l=>Gf n l x.1) (D:=fun n v x=>jM n v x.1) (B:=fun x=>x.2) (aJc hsy hE) (fun l=>rfl) (fun l hl x _=>hD l hl x)
   (fun l hl h18=>D5 a.kids (fun n x=>jM n x (l.headD v0).kids) _ (fun x hx=>hD l hl x) la')
  exact h
def ar0{e:Env}{c:A4}{a:At}(h:Scp e sz c a)(s:Str)(f:a.find? (λb=>b.name==s)=none):c.find? (λd=>d.name==s)=none:=by induction h with|nil=>rfl|cons h k i=>grind
def LkE(e:Env)(cs:A7)(ds:A4)(sz:A2)(m:List (Str×Val))(g:Str->Val):Prop:=∀s t,look e s=some t->∀b,Ev (λn=>adY n cs ds sz m b s) (.ok (g s))
def azl{e:Env}(k:LkE e cs ds sz m g){d:A4}{a:At}(h:Scp e sz d a){s:Str}{t:Ty}(c:nJ e d s=some t):Ev (λn=>nY n cs ds sz m a.reverse s) (pz (.ok (Ml g a s))):=by unfold nY Ml;rw[List.reverse_reverse];cases f:a.find? (λb=>b.name==s)with|some b=>exact Cu|none=>unfold nJ at c;rw[ar0 h s f]at c;exact k s t c _
def lT{t:Tm}{b:At}(h:dV (vb b.reverse) (λn=>sI n (bJ n) (bK n) (bI n) (dw n) (dJ n) (aM n) (dD n) cs ds sz m b.reverse t) b.reverse (aj g t b)):nK cs ds sz m g t b:=dV.succ h
def xw(op:Int):Bool:=op==3 ||(op==7 ||(decide (10<=op)&&decide (op<=15) ||(decide (21<=op)&&decide (op<=27) ||decide (30<=op)&&decide (op<=54))))
def aqZ(n:Nat){r1 r r3 a d f g}{op:Int}{nm:Str}{k:Int}{u:Ty}{s:Bi}{b:At}(h:xw op=true):
  sI n r1 r r3 a d f g cs ds sz m b (.mk op nm k u s)=(Kn n r1 r r3 a d f g cs ds sz m (.mk op nm k u s) n (0,0,0,([]:Str),([]:Af),0,0,([]:Str),([]:Af),b)).bind (asw op n):=by
 unfold xw at h;simp at h;have e:∀c:Int,(c=1∨c=2∨c=19∨c=20∨c=29∨c=4∨c=5∨c=6∨c=8∨c=9∨c=55∨c=56∨c=16∨c=17∨c=18∨c=28)->(op==c)=false:=λc i=>by rw[beq_eq_false_iff_ne];omega
 unfold sI;simp only[Tm.op,e 1 Cl,e 2 Cl,e 19 Cl,e 20 Cl,e 29 Cl,e 4 Cl,e 5 Cl,e 6 Cl,e 8 Cl,e 9 Cl,e 55 Cl,e 56 Cl,e 16 Cl,e 17 Cl,e 18 Cl,e 28 Cl,c_0,qAb]
def adW{op:Int}{nm:Str}{k:Int}{s:List Kd}{b:At}(h:xw op=true):Za g op nm k s b=(aN (s.map λk=>k.f b)).thn (bB op):=by
 unfold xw at h;simp at h;have e:∀c:Int,(c=1∨c=2∨c=19∨c=20∨c=29∨c=4∨c=5∨c=6∨c=8∨c=9∨c=55∨c=56∨c=16∨c=17∨c=18∨c=28)->(op==c)=false:=λc a=>by rw[beq_eq_false_iff_ne];omega
 unfold Za bY
 grind
def app1{op:Int}{nm:Str}{k:Int}{u:Ty}{x:Tm}{b:At}(h:xw op=true)(d:nK cs ds sz m g x b)(hA:∀a,aj g x b=.ok a->Ev (λn=>oz n op a v0) (pz (CG op a v0))):nK cs ds sz m g (.mk op nm k u [x]) b:=by
 have c:(op==28)=false:=by
  unfold xw at h
  grind
 refine lT ?_;rw[bG,adW h];simp only[aqZ _ h];exact aGd c d hA
def Fq{op:Int}{nm:Str}{k:Int}{u:Ty}{x y:Tm}{s:At}(h:xw op=true)(d:nK cs ds sz m g x s)(e:nK cs ds sz m g y s)(hA:∀a b,aj g x s=.ok a->aj g y s=.ok b->Ev (λn=>oz n op a b) (pz (CG op a b))):nK cs ds sz m g (.mk op nm k u [x,y]) s:=by
 have c:(op==28)=false:=by
  unfold xw at h
  grind
 refine lT ?_;rw[bG,adW h];simp only[aqZ _ h];exact aGG c d e hA
theorem arW{env:Env}(hg:Xp env sz g){op:Int}{nm:Str}{k:Int}{u:Ty}{sc:A4}{t:Ty}{x y:Tm}{bs:At}(ho:op=16∨op=17∨op=18)(hs:Scp env sz sc bs)(hx:HT env sc x (cond (op==18) (au t) t))(hy:HT env sc y (au t))(hX:nK cs ds sz m g x bs)(hE:nK cs ds sz m g y bs)
  (hK:∀z∈y.kids,iO y.op=true→nK cs ds sz m g z bs) (hl:∀v,aj g x bs=.ok v→v.kids.length≤256):nK cs ds sz m g (.mk op nm k u [x,y]) bs:=by
 refine lT ?_;have e:aj g (.mk op nm k u [x,y]) bs=(aj g x bs).thn (X9 op (nu g y) bs):=by
  rw[bG];rcases ho with rfl|rfl|rfl<;>rfl
 rw[e];have main:=fun a (ha:aj g x bs=.ok a)=>aGw (cs:=cs) (ds:=ds) (m:=m) hg ho hs hy hE hK a (sound hg x sc _ bs a hx hs ha) (hl a ha);rcases ho with rfl|rfl|rfl
 ·exact dV.mono (f:=fun n=>(aM n cs ds sz m bs.reverse x).bind (PZ.el (fun x7=>_) (fun e8 z8=>some (.er e8 z8)))) (fun v h=>h) (dV.bind (K:=vb bs.reverse) hX main)
 ·exact dV.mono (f:=fun n=>(aM n cs ds sz m bs.reverse x).bind (PZ.el (fun x7=>_) (fun e8 z8=>some (.er e8 z8)))) (fun v h=>h) (dV.bind (K:=vb bs.reverse) hX main)
 exact dV.mono (f:=fun n=>(aM n cs ds sz m bs.reverse x).bind (PZ.el (fun x7=>_) (fun e8 z8=>some (.er e8 z8)))) (fun v h=>h) (dV.bind (K:=vb bs.reverse) hX main)
end
def avi{e:Env}{sz:A2}{t:Ty}{v:Val}(h:hasB e sz t v=true):v.kids.length<=256:=by
 let⟨k,nm,s⟩:=t;rw[hasB]at h;unfold acs abw OD at h
 grind
def aek{j:Env}{cs:A7}{ds:A4}{sz:A2}{m:List (Str×Val)}{g:Str->Val}(hg:Xp j sz g)(hk:LkE j cs ds sz m g)(t:Tm):
  (∀d E ty B,Wf d t->HT j E t ty->Scp j sz E B->(B.length:Int)<d->nK cs ds sz m g t B)/\∀z∈t.kids,∀d E ty B,Wf d z->HT j E z ty->Scp j sz E B->(B.length:Int)<d->nK cs ds sz m g z B:=by
 induction t using Tm.ind with
 |h o nm k u Q Z=>
 refine⟨?_,λz G=>(Z z G).1⟩;intro d E ty B M ht H s;let⟨hnode,hd,hkl,N⟩:=M.node;have hbl:B.length<=1000:=by omega
 have S:∀{e:Ty} {w:Val},hasB j sz (au e) w=true->dO w.kids/\∀x∈w.kids,hasB j sz e x=true:=λM=>by
  obtain⟨l,rfl,C,h2⟩:=iV.1 M;exact⟨C,h2⟩
 have R:∀{a b:Ty} {w:Val},hasB j sz (au (aR a b)) w=true->fI w.kids:=λM p hp=>by
  obtain⟨x,y,rfl,_,_⟩:=qJ.1 ((S M).2 p hp);exact⟨x,y,rfl⟩
 have I:∀{w:Val},hasB j sz fE w=true->EU w.n:=λM=>by
  obtain⟨n,rfl,h⟩:=sG.1 M;exact h
 have D:=λx (c:x∈Q) ty (h:HT j E x ty)=>(Z x c).1 (d+1) E ty B (N x c) h H Cl;have V:∀{x:Tm} {ty:Ty} {v:Val},HT j E x ty->aj g x B=.ok v->hasB j sz ty v=true:=λh e=>sound hg _ E _ B _ h H e;have z0:dO v0.kids:=⟨.nil,by simp[v0,Val.kids]⟩;have F:∀{o:Int} {a b:Val},31<=o->dO a.kids->dO b.kids->((35<=o/\o<=36∨39<=o/\o<=40∨50<=o/\o<=54)->fI a.kids)->(35<=o/\o<=38->fI b.kids)->SetsOk o a b:=λh31 C h2 h3 h4=>⟨λh=>by omega,λ_=>⟨C,h2⟩,h3,h4⟩;have bn:∀{o:Int} {x y:Tm} {e t:Ty},bY o=true->Q=[x,y]->HT j E x (au e)->HT j (⟨nm,e⟩::E) y t->dV (vb B.reverse) (λn=>dJ n cs ds sz m B.reverse (.mk o nm k u [x,y])) B.reverse (aj g (.mk o nm k u [x,y]) B):=λhbd hks c f=>by
  subst hks;refine aAp hbd (D _ cn _ c) hbl (λv O=>(S (V c O)).1.2) λv O a i=>?_;exact(Z _ cn).1 (d+1) _ _ _ (N _ cn) f (.cons ((S (V c O)).2 a i) H) Cp
 have K:∀{y:Tm} {t:Ty},y∈Q->HT j E y (au t)->∀z∈y.kids,iO y.op=true->nK cs ds sz m g z B:=λ{y t} U f z G J=>by
  have W:=(N y U);have hi:=λhT=>(Z y U).2 z G (d+1+1) E hT B;cases f with
  |fam q T P hw1=>
   have G:z∈[_,_]:=G;have L:=W.node.2.2.2 z G;rcases qAh.1 G with rfl|hz'
   ·exact hi _ L P H Cl
   have hz':=qAK.1 hz';subst hz';exact hi _ L hw1 H Cl
  |pow P=>
   have G:z∈[_]:=G;have L:=W.node.2.2.2 z G;have hz':=qAK.1 G;subst hz';exact hi _ L P H Cl
  |bin q T=>rcases T with rfl|rfl|rfl<;>cases J
  |dres q T=>rcases T with rfl|rfl<;>cases J
  |rres q T=>rcases T with rfl|rfl<;>cases J
  |_=>cases J
 cases ht with
 |lit o A=>
  refine lT ?_;rcases A with rfl|rfl
  ·exact Ev.of λ_=>rfl
  exact Ev.of λ_=>rfl
 |int h=>
  refine lT ?_;exact dV.pure (r:=gM k) (M5 k) (Er.int k)
 |name hl=>
  refine lT ?_;exact dV.pure (azl hk H hl) (Er.ok _)
 |empty h=>
  refine lT ?_;exact Ev.of λ_=>rfl
 |not c=>exact app1 rfl (D _ cn _ c) λa i=>iE Cl Cl Cl Cl Cl Cl Cl
 |log o A c f=>
  rename_i x y;rcases A with rfl|rfl|rfl|rfl
  ·exact lT (dV.same (ahl Cl (D _ cn _ c) (D _ cn _ f)))
  ·exact lT (dV.same (ahl Cl (D _ cn _ c) (D _ cn _ f)))
  ·exact lT (dV.same (ahl Cl (D _ cn _ c) (D _ cn _ f)))
  exact Fq rfl (D _ cn _ c) (D _ cn _ f) λa b i s=>iE Cl Cl Cl Cl Cl Cl Cl
 |qu o A c f=>
  rename_i x y e;rcases A with rfl|rfl
  ·exact lT (dV.same (bn rfl rfl c f))
  exact lT (dV.same (bn rfl rfl c f))
 |compr c f=>exact lT (dV.same (bn rfl rfl c f))
 |fn X c f=>exact lT (dV.same (bn rfl rfl c f))
 |eq o A X c f=>
  rcases A with rfl|rfl
  ·exact Fq rfl (D _ cn _ c) (D _ cn _ f) λa b i s=>iE Cl Cl Cl Cl Cl Cl Cl
  exact Fq rfl (D _ cn _ c) (D _ cn _ f) λa b i s=>iE Cl Cl Cl Cl Cl Cl Cl
 |ord o A c f=>
  have C:xw o=true:=by rcases A with rfl|rfl|rfl|rfl<;>rfl
  exact Fq C (D _ cn _ c) (D _ cn _ f) λa b i s=>iE Cl Cl Cl Cl Cl Cl Cl
 |inn o A c f=>
  rename_i x y t;have h18:(o==18)=false:=by rcases A with rfl|rfl<;>rfl
  exact arW hg Cl H (by rw[h18];exact c) f (D _ cn _ c) (D _ cn _ f) (K cn f) λv O=>avi (V c O)
 |sub c f=>exact arW hg (.inr (.inr rfl)) H c f (D _ cn _ c) (D _ cn _ f) (K cn f) λv O=>avi (V c O)
 |neg c=>exact app1 rfl (D _ cn _ c) λa i=>iE Cl (λ_=>⟨I (V c i),by constructor<;>simp[v0,Val.n]⟩) Cl Cl Cl Cl Cl
 |num o A c f=>
  have C:xw o=true:=by rcases A with rfl|rfl|rfl|rfl|rfl<;>rfl
  exact Fq C (D _ cn _ c) (D _ cn _ f) λa b i s=>iE Cl (λ_=>⟨I (V c i),I (V f s)⟩) Cl Cl Cl Cl Cl
 |pair C h2 c f=>exact Fq rfl (D _ cn _ c) (D _ cn _ f) λa b i s=>iE Cl Cl Cl Cl Cl Cl Cl
 |set X hn c=>
  refine lT ?_;have e:aj g (.mk 28 nm k u Q) B=(aN (Q.map λt=>aj g t B)).thn bF:=by
   rw[bG];show(aN ((Q.map (nu g)).map λk=>k.f B)).thn bF=_;rw[qBh];rfl
  rw[e];exact aAd (λx Y=>D x Y _ (c x Y)) Cl
 |range c f=>exact Fq rfl (D _ cn _ c) (D _ cn _ f) λa b i s=>iE Cl Cl Cl Cl Cl Cl λ_=>⟨λ_=>⟨I (V c i),I (V f s)⟩,λh=>absurd rfl h,by omega,by omega⟩
 |bin o A c f=>
  have C:xw o=true:=by rcases A with rfl|rfl|rfl<;>rfl
  exact Fq C (D _ cn _ c) (D _ cn _ f) λa b i s=>iE Cl Cl Cl Cl Cl Cl λ_=>F Cl (S (V c i)).1 (S (V f s)).1 Cl Cl
 |prod c f=>exact Fq rfl (D _ cn _ c) (D _ cn _ f) λa b i s=>iE Cl Cl Cl Cl Cl Cl λ_=>F Cl (S (V c i)).1 (S (V f s)).1 Cl Cl
 |over c f=>exact Fq rfl (D _ cn _ c) (D _ cn _ f) λa b i s=>iE Cl Cl Cl Cl Cl Cl λ_=>F Cl (S (V c i)).1 (S (V f s)).1 (λ_=>R (V c i)) (λ_=>R (V f s))
 |comp c f=>exact Fq rfl (D _ cn _ c) (D _ cn _ f) λa b i s=>iE Cl Cl Cl Cl Cl Cl λ_=>F Cl (S (V c i)).1 (S (V f s)).1 (λ_=>R (V c i)) (λ_=>R (V f s))
 |dres o A c f=>
  have C:xw o=true:=by rcases A with rfl|rfl<;>rfl
  exact Fq C (D _ cn _ c) (D _ cn _ f) λa b i s=>iE Cl Cl Cl Cl Cl Cl λ_=>F Cl (S (V c i)).1 (S (V f s)).1 Cl (λ_=>R (V f s))
 |rres o A c f=>
  have C:xw o=true:=by rcases A with rfl|rfl<;>rfl
  exact Fq C (D _ cn _ c) (D _ cn _ f) λa b i s=>iE Cl Cl Cl Cl Cl Cl λ_=>F Cl (S (V c i)).1 (S (V f s)).1 (λ_=>R (V c i)) Cl
 |fam o A c f=>
  have C:xw o=true:=by rcases A with rfl|rfl|rfl|rfl|rfl<;>rfl
  exact Fq C (D _ cn _ c) (D _ cn _ f) λa b i s=>iE Cl Cl Cl Cl Cl Cl λ_=>F Cl (S (V c i)).1 (S (V f s)).1 Cl Cl
 |pow c=>exact app1 rfl (D _ cn _ c) λa i=>iE Cl Cl Cl Cl Cl Cl λ_=>F Cl (S (V c i)).1 z0 Cl Cl
 |card c=>exact app1 rfl (D _ cn _ c) λa i=>iE Cl Cl (λ_=>(S (V c i)).1) Cl Cl Cl Cl
 |ext o A c=>
  have C:xw o=true:=by rcases A with rfl|rfl<;>rfl
  exact app1 C (D _ cn _ c) λa i=>iE Cl Cl (λ_=>(S (V c i)).1) Cl Cl Cl Cl
 |dom c=>exact app1 rfl (D _ cn _ c) λa i=>iE Cl Cl Cl Cl Cl Cl λ_=>F Cl (S (V c i)).1 z0 (λ_=>R (V c i)) Cl
 |ran c=>exact app1 rfl (D _ cn _ c) λa i=>iE Cl Cl Cl Cl Cl Cl λ_=>F Cl (S (V c i)).1 z0 (λ_=>R (V c i)) Cl
 |inv c=>exact app1 rfl (D _ cn _ c) λa i=>iE Cl Cl Cl Cl Cl Cl λ_=>F Cl (S (V c i)).1 z0 (λ_=>R (V c i)) Cl
 |image c f=>exact Fq rfl (D _ cn _ c) (D _ cn _ f) λa b i s=>iE Cl Cl Cl Cl Cl Cl λ_=>F Cl (S (V c i)).1 (S (V f s)).1 (λ_=>R (V c i)) Cl
 |app c f=>exact Fq rfl (D _ cn _ c) (D _ cn _ f) λa b i s=>iE Cl Cl (λ_=>(S (V c i)).1) (λ_=>R (V c i)) Cl Cl Cl
def EH(e:Env):List (Str×Ty):=gI (wK e) []
def Bc(e:Env):List (Str×Bool):=gI (e.carriers.map λc=>(c.name,true)) []
def arv{e:Env}(h:aW e=true)(s:Str):dn (EH e) s=look e s:=by
 unfold EH;rw[QV _ _ _ (DJ h),Oe];unfold look;rw[<-aiS (ah1 e) (DJ h)]
 grind
def atq{e:Env}(h:aW e=true)(s:Str):dn (Bc e) s=cond (dP e s) (some true) none:=by
 unfold Bc;have n:((e.carriers.map λc=>(c.name,true)).map (·.1)).Nodup:=by
  have:=(iJ h).2.2.2.2;unfold names2 at this
  grind
 rw[QV _ _ _ n,Oe,UQ (λc:Carrier=>c.name) (λ_=>true)];unfold dP;cases f:e.carriers.find? (λc=>c.name==s)with|none=>grind|some c=>grind
def aoL{v:Env}(h:aW v=true):Ev (λn=>FB n v) (EH v,Bc v):=by
 let⟨d,_⟩:=iJ h;refine e_0 (aBb h) ?_;have b:=oZ (ρ:=(List (Str×Ty))×(List (Str×Bool))) v.carriers (λn k i s=>Kc n v k (i,s)) (λn x s=>yG s x.name true) (λx s=>lJ s x.name true) (λs=>s) (λu s=>s.length+u.length<=1000)
  (λn k i s=>rfl)
  (λx u s l f=>by
   simp at f;refine⟨?_,?_⟩;·rw[LX Cl];exact Cu
   have:=Dh s x.name true;omega) (s0:=[]) Cp
 have g:∀(a:A7) (m:List (Str×Bool)),a.foldl (λs x=>lJ s x.name true) m=gI (a.map λc=>(c.name,true)) m:=by
  intro a
  induction a with|nil=>intro m;rfl|cons e o j=>intro m;rw[qBg,j];rfl
 rw[g]at b;exact e_0 b Cu
def aCM{e:Env}(h:aW e=true){t:Ty}(b:bA t=true)(M:List (Str×Ty))(path:A2):Ev (λn=>tO n M (Bc e) path t) (knows e t):=by
 refine e_0 (CK b) ?_;generalize c:((gI ((dX t).map λs=>(s,true)) []).map (·.1)).mergeSort leS=l;have m:∀s,s∈l↔s∈dX t:=λs=>by rw[<-c];exact RQ t s
 have f:=vo l (λn k i=>xX n l M (Bc e) path k i) (λn x=>qN n x M (Bc e) path) (λs=>!(dP e s)) (λn k i=>rfl) (λx _=>by
  unfold qN;rw[atq h];cases dP e x;·exact Cu
  exact Cu)
 refine e_0 (a:=l.any λs=>!(dP e s)) (e_0 f ?_) ?_;·rw[mO _ _ _ (qBD _)];exact Cu
 rw[qm,qCk];have:l.all (dP e)=(dX t).all (dP e):=by grind
 rw[this];exact Cu
def ahg(n:Nat)(op:Int):Bg n op=some (bY op):=by
 unfold Bg bY
 grind
def ajA(t:Ty):Ev (λn=>uH n t) (cond (bA t) (t,0) (bH,5)):=by
 refine e_0 (tK t) ?_;cases bA t;·exact Cu
 exact Cu
def scP(o:Option Decl):Ty×Bool:=match o with|some d=>(d.ty,true)|none=>(bH,false)
def akx(c:A4)(s:Str):Ev (λn=>vF n c s) (scP (c.find? λd=>d.name==s)):=by
 have e:∀(c:A4) (n k:Nat),c.length+1<=k->qL n s k c=some (match c.find? (λd=>d.name==s)with|some d=>.rt (d.ty,true)|none=>.nx ()):=by
  intro c
  induction c with
  |nil=>
   intro n k h;cases k with
   |zero=>simp at h
   |succ k=>rfl
  |cons d c i=>
   intro n k h;cases k with
   |zero=>simp at h
   |succ k=>
    show cond (d.name==s) (some (.rt (d.ty,true))) (qL n s k c)=_
    grind
 have a:Ev (λn=>qL n s n c) (match c.find? (λd=>d.name==s)with|some d=>.rt (d.ty,true)|none=>.nx ()):=⟨c.length+1,λn b=>e c n n b⟩;refine e_0 a ?_;cases c.find? λd=>d.name==s
 ·exact Cu
 exact Cu
def VB(path:A2)(r:TR):Ty×Int×A2:=match r with| .ok t=>(t,0,path)| .er e p=>(bH,e,path++p)
abbrev CS:=A4×A3×A2
def aIO(e:Env)(n:Nat)(t:Tm)(i:Int)(s:CS):Option (LR CS (Ty×Int×A2)):=(j6 n (EH e) (Bc e) s.2.2 t i s.1).bind λ(x:Ty×Int×A2)=>cond (x.2.1 !=0) (some (.rt ((Ty.mk 0 ([]:Str) ([])),x.2.1,x.2.2))) ((app 48 s.2.1 ([x.1])).bind λ(a:A3)=>((cond (i==0) ((Bg n t.op).bind λ(c:Bool)=>some c) (some false)):Ax).bind λ(d:Bool)=>cond d ((dx n x.1).bind λ(b:Ty×Bool)=>cond (!b.2) (some (.rt ((Ty.mk 0 ([]:Str) ([])),7,x.2.2))) (some (.nx (((Decl.mk t.name b.1)::s.1),a,x.2.2)))) (some (.nx (s.1,a,x.2.2))))
def stC(n:Env)(op:Int)(nm:Str)(i:Int)(x:Tm)(s:CS):LR CS (Ty×Int×A2):=match bX n s.1 x with| .er e p=>.rt (bH,e,s.2.2++i::p)| .ok t=>match qc (i==0&&bY op) nm t s.1 with|none=>.rt (bH,7,s.2.2)|some c=>.nx (c,s.2.1++[t],s.2.2)
def avu(n:Env)(op:Int)(nm:Str):∀(d:Bi) (i:Int) (b:A4) (a:A3) (path:A2),0<=i->(match bV n b (i==0&&bY op) nm i d with| .er e p=>lu (stC n op nm) (λs=>s) i d (b,a,path)=.rt (bH,e,path++p)| .ok l=>∃c,lu (stC n op nm) (λs=>s) i d (b,a,path)=.nx (c,a++l,path))
 |[],i,b,a,path,_=>by simp only[bV,lu,qAt];exact⟨b,rfl⟩|t::d,i,b,a,path,j=>by
  simp only[bV,lu,stC];cases k:bX n b t with|er e p=>rfl|ok y=>
   simp only;cases m:qc (i==0&&bY op) nm y b with|none=>simp|some c=>
    simp only;have z:(i+1==0)=false:=by simp only[beq_eq_false_iff_ne];omega
    have:=avu n op nm d (i+1) c (a++[y]) path Cl;rw[z,qBk]at this;cases h:bV n c false nm (i+1) d with|er e p=>rw[h]at this;exact this|ok l=>rw[h]at this;let⟨f,g⟩:=this;exact⟨f,by rw[g];simp⟩
def aAj(e:Env)(t:Tm):Prop:=∀(d:Int) (s:A4) (p:A2),Wf d t->GoodS s->(p.length:Int)<d->Ev (λn=>mP n (EH e) (Bc e) p t s) (VB p (bX e s t))
def aAM(path:A2)(i:Int)(h:path.length<=1000):((FJ (path++[i]).length (((path++[i]).length:Int) - 1)).bind λ(c:Nat)=>bif Nat.ble c (path++[i]).length then some (List.take c (path++[i]))else none)=some path:=by
 have e:((path++[i]).length:Int) - 1=(path.length:Int):=by simp
 have a:Nat.ble path.length (path++[i]).length=true:=qCI cn;rw[e,FJ,if_pos ⟨by omega,by simp;omega⟩]
 grind
def aBm{v:Env}{t x:Tm}{i:Int}(h:idx t.kids i=some x)(c:aAj v x){d:Int}{s:A4}{path:A2}(w:Wf (d+1) x)(hs:GoodS s)(g:(path.length:Int)<d)(j:d<=64):
  Ev (λn=>j6 n (EH v) (Bc v) path t i s) (match bX v s x with| .ok y=>(y,0,path)| .er e p=>(bH,e,path++i::p)):=by
 refine Ev.succ ?_;show Ev (λn=>ug n _ _ (EH v) (Bc v) path t i s) _;unfold ug;rw[qh Cp Cl,h];simp;refine e_0 (c (d+1) s (path++[i]) w hs Cp) ?_;cases a:bX v s x with|ok y=>simp only[VB];rw[aAM path i Cl];exact Cu|er e p=>
  have b:=IG x s e p a;have f:(e==0)=false:=by simpa using b
  simp only[VB,f,qAm];exact Cu
theorem aCg(n:Nat)(r1:(List (Str×Ty))->(List (Str×Bool))->A2->Tm->A4->Option (Ty×Int×A2))(e:(List (Str×Ty))->(List (Str×Bool))->A2->Tm->Int->A4->Option (Ty×Int×A2))(a:List (Str×Ty))(d:List (Str×Bool))(f:A2)(p:Tm)(g:A4):
  xK n r1 e a d f p g=((Au n r1 e a d p n (g,([]:A3),0,f)).bind (LR.el (λ(s:A4×A3×A2)=>cond (p.op==20) ((vF n s.1 p.name).bind λ(h:Ty×Bool)=>cond h.2 (some (h.1,0,s.2.2)) (((mel (dn a p.name) (some (false,0,([]:Str),([]:A3))) (λ(x:Ty)=>some (true,x.kind,x.name,x.kids))):Option (Bool×Int×Str×A3)).bind λ(b:Bool×Int×Str×A3)=>cond (!b.1) (some ((Ty.mk 0 ([]:Str) ([])),6,s.2.2)) (some ((Ty.mk b.2.1 b.2.2.1 b.2.2.2),0,s.2.2)))) (cond (p.op==29) ((tO n a d s.2.2 p.ty).bind λ(k:Bool)=>cond (!k) (some ((Ty.mk 0 ([]:Str) ([])),6,s.2.2)) ((uH n (Ty.mk 5 ([]:Str) ([p.ty]))).bind λ(i:Ty×Int)=>some (i.1,i.2,s.2.2))) ((aqC n p.op s.2.1).bind λ(c:Bool×Int×Str×A3)=>cond (!c.1) (some ((Ty.mk 0 ([]:Str) ([])),7,s.2.2)) ((uH n (Ty.mk c.2.1 c.2.2.1 c.2.2.2)).bind λ(j:Ty×Int)=>some (j.1,j.2,s.2.2))))) (λr=>some r))):=rfl
def aGC{v:Env}(H:aW v=true):∀t:Tm,aAj v t:=Tm.ind λo nm m B w ih d C j hw X hp=>by
 let⟨D,hd,hks,Q⟩:=hw.node;let⟨I,J,K,L,R⟩:=UW D;refine Ev.succ ?_;show Ev (λn=>xK n (mP n) (j6 n) (EH v) (Bc v) j (.mk o nm m B w) C) _;simp only[aCg];have h:=aD0 w (λn k i (s:CS)=>Au n (mP n) (j6 n) (EH v) (Bc v) (.mk o nm m B w) k (s.1,s.2.1,i,s.2.2))
  (λn i _ s=>aIO v n (.mk o nm m B w) i s) (stC v o nm) (λs=>s) (λ_ M s=>GoodS s.1/\s.2.1.length+M.length<=2000/\s.2.2=j)
  (λn k s=>by
   show cond (decide ((w.length:Int)<(w.length:Int))) _ _=_;rw[d_0 Cl];rfl)
  (λn k i x s S hi=>by
   show cond (decide (i<(w.length:Int))) _ _=_;rw[hi];rfl)
  (λi x M s S hI N=>by
   let⟨P,h2,Y⟩:=hI;simp only[qAp]at h2;have T:=aBm (t:=.mk o nm m B w) (i:=i) N (ih x S) (Q x S) P (path:=s.2.2) (by rw[Y];exact hp) hd;refine⟨?_,λs' g=>?_⟩
   ·refine e_0 T ?_;unfold stC;cases F:bX v s.1 x with
    |er e p=>
     have he:=IG x s.1 e p F;have e0:(e !=0)=true:=by simpa using he
     simp only[e0,c_1];exact Cu
    |ok u=>
     have O:=sV H P F;simp only[show((0:Int)!=0)=false from rfl,c_0];rw[qh Cp Cl];simp only[qAb,ahg,Tm.op,Tm.name];refine e_0 (a:=i==0&&bY o) ?_ ?_
     ·cases i==0
      ·exact Cu
      exact Cu
     unfold qc;cases(i==0&&bY o)with
     |false=>exact Cu
     |true=>
      simp only[c_1,acf _ O,qAb];cases eB u with
      |none=>exact Cu
      |some e=>exact Cu
   unfold stC at g;cases F:bX v s.1 x with
   |er e p=>rw[F]at g;cases g
   |ok u=>
    rw[F]at g;simp only at g;cases G:qc (i==0&&bY o) nm u s.1 with
    |none=>rw[G]at g;cases g
    |some U=>
     rw[G]at g;cases g;refine⟨Pq (sV H P F) P G,?_,Y⟩;simp only[qAe,qAI];omega) (s0:=(C,[],j)) ⟨X,by simp;omega,rfl⟩
 have f:=avu v o nm w 0 C [] j (qBD _);simp only[show((0:Int)==0)=true from rfl,qAu,qAo]at f;simp only[bX];cases z:(o==20)with
 |true=>
  have e:o=20:=by simpa using z
  have E:=J e;subst E;refine e_0 h ?_;simp only[lu,LR.el,Tm.op,Tm.name,z,c_1];refine e_0 (akx C nm) ?_;unfold nJ;cases C.find? (λd=>d.name==nm)with
  |some d=>exact Cu
  |none=>
   simp only[scP,c_0,c_1,Tm.name,arv H];cases hl:look v nm with
   |none=>simp only[VB,qAt];exact Cu
   |some t=>let⟨a,b,c⟩:=t;exact Cu
 |false=>
  simp only[c_0];cases A:(o==29)with
  |true=>
   have e:o=29:=by simpa using A
   let⟨E,V,_⟩:=K e;subst E;refine e_0 h ?_;simp only[Tm.op,z,A,c_0,c_1,Tm.ty];refine e_0 (aCM H V _ _) ?_;cases knows v B with
   |false=>simp only[qBb,qBH,c_1,VB,qAt];exact Cu
   |true=>
    simp only[qAv,qBP,c_0,bV,rJ];refine e_0 (ajA (au B)) ?_;cases bA (au B)with
    |false=>simp only[c_0,VB,qAt];exact Cu
    |true=>exact Cu
  |false=>
   simp only[qBk,c_0];cases E:bV v C (bY o) nm 0 w with
   |er e p=>
    rw[E]at f;simp only at f;rw[f]at h;exact e_0 h Cu
   |ok l=>
    rw[E]at f;let⟨U,f⟩:=f;rw[f]at h;refine e_0 h ?_;simp only[LR.el,Tm.op,z,A,c_0];let⟨k1,k2,k3⟩:=akY H w C (bY o) nm 0 l X E;let⟨r,W,q⟩:=ay8 I.1 I.2 (by simpa using z) (by simpa using A) k2 (L l k1) (λG=>k3 G (by let⟨x,y,e⟩:=R G;rw[e];simp));refine e_0 W ?_;cases Z:jT o l with
    |none=>
     rw[Z]at q;simp only at q;simp only[q,qBb,c_1,rJ,VB,qAt];exact Cu
    |some t=>
     rw[Z]at q;simp only at q;subst q;simp only[qAv,c_0,aHy,rJ];refine e_0 (ajA t) ?_;cases bA t with
     |false=>simp only[c_0,VB,qAt];exact Cu
     |true=>exact Cu
def awp(v:Env)(c:A4)(s:Str)(a:(c.length:Int)<=100):Ev (λn=>Jc n v c.reverse s) (match nJ v c s with|some t=>(t,true)|none=>(bH,false)):=by
 have y:∀(c p:A4) (n k:Nat),c.length+1<=k->(c.length:Int)<=100->AY n (c.reverse++p) s k ((c.length:Int) - 1)=some (match c.find? (λd=>d.name==s)with|some d=>.rt (d.ty,true)|none=>.nx ()):=by
  intro c
  induction c with
  |nil=>
   intro p n k h _;cases k with
   |zero=>simp at h
   |succ k=>rfl
  |cons d c i=>
   intro p n k h l;cases k with
   |zero=>simp at h
   |succ k=>
    have e:(((d::c).length:Int) - 1)=(c.reverse.length:Int):=by simp
    have b:(d::c).reverse++p=c.reverse++d::p:=by simp
    rw[e,b];show Lu n (c.reverse++d::p) s (AY n (c.reverse++d::p) s k) (c.reverse.length:Int)=_;unfold Lu;rw[d_1 Cl,gJ];simp only[c_1,qAb,qCd];cases j:d.name==s with
    |true=>rfl
    |false=>
     simp only[c_0];have:=i (d::p) n k (by simp at h;omega) (by simp at l;omega);rw[qCT,wrap64 Cl (by simp at l;omega)];exact this
 unfold Jc;have f:Ev (λn=>AY n c.reverse s n ((c.reverse.length:Int) - 1)) (match c.find? (λd=>d.name==s)with|some d=>.rt (d.ty,true)|none=>.nx ()):=⟨c.length+1,λn g=>by
  have:=y c [] n n g a;rw[qAt]at this;rw[qCT];exact this⟩
 refine e_0 f ?_;unfold nJ;cases c.find? (λd=>d.name==s)with
 |some d=>exact Cu
 |none=>exact VI v s
def YQ(r:TR):Ty×A2×Int:=match r with| .ok t=>(t,[],0)| .er e p=>(bH,p,e)
def aJl(e:Env)(t:Tm):Prop:=∀(d:Int) (s:A4),Wf d t->GoodS s->(s.length:Int)<d->Ev (λn=>CF n e s.reverse t) (YQ (bX e s t))
def scR(op:Int)(nm:Str)(s:A4)(i:Int)(l:A3):Option A4:=qc (bY op&&i==1) nm (l.headD bH) s
def stR(n:Env)(op:Int)(nm:Str)(c:A4)(i:Int)(x:Tm)(l:A3):LR A3 (Ty×A2×Int):=match scR op nm c i l with|none=>.rt (bH,[],7)|some s=>match bX n s x with| .er e p=>.rt (bH,i::p,e)| .ok t=>.nx (l++[t])
def alG(a:A3)(r:KR):LR A3 (Ty×A2×Int):=match r with| .ok l=>.nx (a++l)| .er e p=>.rt (bH,p,e)
def asN(n:Env)(op:Int)(h:bY op=false)(nm:Str)(c:A4):∀(b:Bi) (i:Int) (a:A3),lu (stR n op nm c) (λs=>s) i b a=alG a (bV n c false nm i b)
 |[],i,a=>by simp[lu,bV,alG]
 |t::b,i,a=>by
  simp only[lu,stR,scR,h,qBk,bV];simp only[qc,c_0];cases bX n c t with
  |er e p=>rfl
  |ok y=>
   simp only;rw[asN n op h nm c b (i+1) (a++[y])];cases bV n c false nm (i+1) b with
   |er e p=>rfl
   |ok l=>simp[alG]
def aAX(n:Env)(op:Int)(h:bY op=true)(nm:Str)(c:A4)(x y:Tm):lu (stR n op nm c) (λs=>s) 0 [x,y] []=alG [] (bV n c true nm 0 [x,y]):=by
 simp only[lu,stR,scR,h,qAu,bV];simp only[show((0:Int)==1)=false from rfl,show((0:Int)+1==1)=true from rfl];simp only[qc,c_0,c_1];cases bX n c x with|er e p=>rfl|ok t=>
  simp only[qAo,List.headD_cons];cases(eB t).map λe=>(⟨nm,e⟩::c:A4)with|none=>rfl|some a=>simp only;cases bX n a y with|er e p=>rfl|ok u=>rfl
def aJx{v:Env}(hv:aW v=true):∀t:Tm,aJl v t:=Tm.ind λo nm m A w ih d g hw M hp=>by
 let⟨C,hd,hks,N⟩:=hw.node;let⟨O,h20k,P,Q,Y⟩:=UW C;refine Ev.succ ?_;show Ev (λn=>KL n (CF n) v g.reverse (.mk o nm m A w)) _;unfold KL;simp only[Tm.op,Tm.name,Tm.ty,bX];cases Z:(o==20)with
 |true=>
  simp only[c_1];refine e_0 (awp v g nm Cl) ?_;cases nJ v g nm with
  |none=>exact Cu
  |some t=>exact Cu
 |false=>
  simp only[c_0];refine e_0 (a:=o==29&&!(knows v A)) ?_ ?_
  ·cases B:(o==29)with
   |true=>
    let⟨_,hvt,_⟩:=P (by simpa using B);exact e_0 (ahA v hvt) Cu
   |false=>exact Cu
  cases(o==29&&!(knows v A))with
  |true=>exact Cu
  |false=>
   simp only[c_0];have z:=aD0 w (λn k i (s:A3)=>adD n (CF n) v g.reverse (.mk o nm m A w) k (s,i))
    (λn i x s=>(((((zM n o).bind λ(D:Bool)=>cond D (some (i==1)) (some false)):Ax).bind λ(s5:Bool)=>cond s5 ((idx s 0).bind λ(x8:Ty)=>(nM n x8).bind λ(x9:Bool)=>cond (!x9) (some (.rt ((Ty.mk 0 ([]:Str) ([])),([]:A2),7))) ((app 64 ([]:A4) g.reverse).bind λ(E:A4)=>(idx s 0).bind λ(F:Ty)=>(idx F.kids 0).bind λ(G:Ty)=>(app 64 E ([(Decl.mk nm G)])).bind λ(H:A4)=>some (.nx H))) (some (.nx g.reverse))):Option (LR A4 (Ty×A2×Int))).bind (LR.el (λ(s4:A4)=>(CF n v s4 x).bind λ(I:Ty×A2×Int)=>cond (I.2.2 !=0) ((app 8 ([i]) I.2.1).bind λ(x6:A2)=>some (.rt ((Ty.mk 0 ([]:Str) ([])),x6,I.2.2))) ((app 48 s ([I.1])).bind λ(x7:A3)=>some (.nx x7))) (λr=>some (.rt r))))
    (stR v o nm g) (λs=>s) (λi R s=>(∀t∈s,Top t)/\s.length+R.length<=2000/\(s.length:Int)=i)
    (λn k s=>by
     show cond (decide ((w.length:Int)<(w.length:Int))) _ _=_;rw[d_0 Cl];rfl)
    (λn k i x s S hi=>by
     show cond (decide (i<(w.length:Int))) _ _=_;rw[hi];simp only[c_1,Tm.op,Tm.name,Tm.kids,S,qAb]
     conv=>rhs;rw[qAW]
     congr 1;funext r;cases r with
     |rt r=>rfl
     |nx s4=>
      simp only[LR.el]
      conv=>rhs;rw[qAW]
      congr 1;funext I;cases I.2.2 !=0 with
      |true=>
       simp only[c_1,qAW];rfl
      |false=>
       simp only[c_0,qAW];rfl)
    (λi x R s S hI hidx=>by
     let⟨W,h2,J⟩:=hI;simp only[qAp]at h2;refine⟨?_,λs' j=>?_⟩
     ·have hsc:Ev (λn=>(((zM n o).bind λ(D:Bool)=>cond D (some (i==1)) (some false)):Ax).bind λ(s5:Bool)=>cond s5 ((idx s 0).bind λ(x8:Ty)=>(nM n x8).bind λ(x9:Bool)=>cond (!x9) (some (.rt ((Ty.mk 0 ([]:Str) ([])),([]:A2),7))) ((app 64 ([]:A4) g.reverse).bind λ(E:A4)=>(idx s 0).bind λ(F:Ty)=>(idx F.kids 0).bind λ(G:Ty)=>(app 64 E ([(Decl.mk nm G)])).bind λ(H:A4)=>some (.nx H))) (some (.nx g.reverse)))
        ((match scR o nm g i s with|none=>.rt (bH,[],7)|some f=>.nx f.reverse:LR A4 (Ty×A2×Int))):=by
       simp only[abj,qAb];refine e_0 (a:=bY o&&i==1) ?_ ?_
       ·cases bY o
        ·exact Cu
        exact Cu
       unfold scR qc;cases c:(bY o&&i==1)with
       |false=>exact Cu
       |true=>
        simp only[qAa,beq_iff_eq]at c;obtain⟨a,l,rfl⟩:=LH s (by rintro rfl;rw[c.2]at J;simp at J);have ha:=W a cn;simp only[c_1,abX,qAb,aAZ _ ha,List.headD_cons];cases K:eB a with
        |none=>exact Cu
        |some e=>
         obtain⟨_,rfl⟩:=jV ha K;have hr:g.reverse.length=g.length:=qCT;simp only[Option.isSome_some,qAv,c_0];rw[qh Cp Cl];simp only[qAb,qAo];show Ev (λn=>(app 64 g.reverse [Decl.mk nm e]).bind _) _;rw[qh Cp Cl];simp only[qAb,qAx,qDh];exact Cu
      refine e_0 hsc ?_;unfold stR;cases b:scR o nm g i s with
      |none=>exact Cu
      |some f=>
       simp only[LR.el];have X:GoodS f/\(f.length:Int)<d+1:=by
        unfold scR at b;have T:bY o&&i==1->Top (s.headD bH):=λc=>by
         simp only[qAa,beq_iff_eq]at c;obtain⟨a,l,rfl⟩:=LH s (by rintro rfl;rw[c.2]at J;simp at J);exact W a cn
        cases c:(bY o&&i==1)with
        |false=>rw[c]at b;cases b;exact⟨M,by omega⟩
        |true=>
         rw[c]at b;refine⟨Pq (T c) M b,?_⟩;unfold qc at b;simp only[c_1]at b;cases K:eB (s.headD bH)with
         |none=>rw[K]at b;cases b
         |some e=>rw[K]at b;cases b;simp;omega
       refine e_0 (ih x S (d+1) f (N x S) X.1 X.2) ?_;cases L:bX v f x with
       |er e p=>
        have K:=IG x f e p L;have e0:(e !=0)=true:=by simpa using K
        have hpl:=ab0 (N x S) f e p L;simp only[YQ,e0,c_1];rw[qh Cp Cl];exact Cu
       |ok u=>
        simp only[YQ,show((0:Int)!=0)=false from rfl,c_0];rw[qh Cp Cl];exact Cu
     unfold stR at j;cases b:scR o nm g i s with
     |none=>rw[b]at j;cases j
     |some f=>
      rw[b]at j;simp only at j;have X:GoodS f:=by
       unfold scR at b;cases c:(bY o&&i==1)with
       |false=>rw[c]at b;cases b;exact M
       |true=>
        rw[c]at b;simp only[qAa,beq_iff_eq]at c;obtain⟨a,l,rfl⟩:=LH s (by rintro rfl;rw[c.2]at J;simp at J);exact Pq (W a cn) M b
      cases L:bX v f x with
      |er e p=>rw[L]at j;cases j
      |ok u=>
       rw[L]at j;cases j;refine⟨λt h=>?_,?_,?_⟩
       ·rcases qAr.1 h with h|h
        ·exact W t h
        rw[qAK.1 h];exact sV hv X L
       ·simp only[qAe,qAI];omega
       simp only[qAe,qAI,qCP,qCQ];omega) (s0:=[]) ⟨λt h=>(by cases h),by simp;omega,rfl⟩
   have U:lu (stR v o nm g) (λs=>s) 0 w []=alG [] (bV v g (bY o) nm 0 w):=by
    cases hb:bY o with
    |false=>exact asN v o hb nm g w 0 []
    |true=>
     obtain⟨x,y,rfl⟩:=Y hb;exact aAX v o hb nm g x y
   rw[U]at z;refine e_0 z ?_;cases hk:bV v g (bY o) nm 0 w with
   |er e p=>exact Cu
   |ok l=>
    simp only[alG,LR.el,qAo];let⟨k1,k2,k3⟩:=akY hv w g (bY o) nm 0 l M hk;have V:Row (λn=>tJ n (.mk o nm m A w) l) (cond (o==29) (some (au A)) (jT o l)):=by
     cases B:(o==29)with
     |true=>
      have e:o=29:=by simpa using B
      subst e;exact Row.yes (au A) Cu rfl
     |false=>exact ayR O.1 O.2 (by simpa using Z) (by simpa using B) k2 (Q l k1) nm m A w
    let⟨r,hr1,q⟩:=V;refine e_0 hr1 ?_;unfold apt at q;cases ho:(cond (o==29) (some (au A)) (jT o l))with
    |none=>
     rw[ho]at q;simp only at q;simp only[q,qBb,c_1,rJ];exact Cu
    |some t=>
     rw[ho]at q;simp only at q;subst q;simp only[qAv,c_0,rJ];refine e_0 (Cw t) ?_;cases bA t with
     |false=>exact Cu
     |true=>exact Cu
def bT(e:Env)(t:Tm):Ty×A2×Int:=cond (aW e&&cO t) (YQ (bX e [] t)) (bH,[],1)
def wR:GoodS []:=λ_ h=>by cases h
abbrev FQ(e:Env):Prop:=∀d∈e.names,d.name.length<=9223372036854775807
def QD(v:Env)(t:Tm)(hs:FQ v)(b:iN t):Ev (λn=>A8 n v t) (bT v t):=by
 unfold A8 bT;refine e_0 (a:=!(aW v&&cO t)) ?_ ?_
 ·refine e_0 (C8 v hs) ?_;cases aW v with
  |false=>exact Cu
  |true=>exact e_0 (OB t b) Cu
 cases h:(aW v&&cO t)with
 |false=>exact Cu
 |true=>
  simp only[qAa]at h;simp only[qAv,c_0,c_1];refine e_0 (aoL h.1) ?_;refine e_0 (aGC h.1 t 1 [] [] (sP h.2) wR cn) ?_;cases r:bX v [] t with
  |er e p=>
   have c:=IG t [] e p r;have d:(e !=0)=true:=by simpa using c
   have f:=ab0 (sP h.2) [] e p r;simp only[VB,YQ,d,c_1,slices_Clone_int,qAo];rw[qh Cp Cl];exact Cu
  |ok u=>
   simp only[VB,YQ,show((0:Int)!=0)=false from rfl,c_0];exact e_0 (atu u (aAH (sV h.1 wR r))) Cu
def J5(v:Env)(t:Tm):Ev (λn=>Dv n v t) (bT v t):=by
 unfold Dv bT;refine e_0 (a:=!(aW v&&cO t)) ?_ ?_;·refine e_0 (KX v) ?_;cases aW v with|false=>exact Cu|true=>exact e_0 (xS t) Cu
 cases h:(aW v&&cO t)with|false=>exact Cu|true=>simp only[qAa]at h;simp only[qAv,c_0,c_1];refine e_0 (aJx h.1 t 1 [] (sP h.2) wR cn) ?_;cases r:bX v [] t with|er e p=>exact e_0 (Vl bH rfl) Cu|ok u=>exact e_0 (Vl u (aAH (sV h.1 wR r))) Cu
def l6(e:Env)(t:Tm):Int:=cond ((bT e t).2.2==0&&(bT e t).1.kind !=2) 7 (bT e t).2.2
def aDZ(r:Ty×A2×Int):Ev (λ_=>((cond (r.2.2==0) (some (r.1.kind !=2)) (some false)):Ax).bind λ(s:Bool)=>cond s (some (7:Int)) (some r.2.2)) (cond (r.2.2==0&&r.1.kind !=2) 7 r.2.2):=by
 cases r.2.2==0 with|false=>exact Cu|true=>
  cases r.1.kind !=2;·exact Cu
  exact Cu
def aa4(e:Env)(t:Tm)(hs:FQ e)(h:iN t):Ev (λn=>Ao n e t) (l6 e t):=by unfold Ao;exact e_0 (QD e t hs h) (aDZ _)
def JU(e:Env)(t:Tm):Ev (λn=>vD n e t) (l6 e t):=by unfold vD;exact e_0 (J5 e t) (aDZ _)
end Abs
end Go.Proofs.YtneeginmfjageaaGreat

/-
  The evaluator comes to the plain value of a term. Conditions: the term has a type, names have values of their types; lemmas without a program.
-/
import Derived.Test.YtneeginmfjageaaGreatCW4oxf4acb7
set_option linter.all false
namespace Go.Proofs.YtneeginmfjageaaGreat
namespace Abs
section
open Go
def dV{α β:Type}(J:β→α)(f:Nat→Option (PZ α (List Bound)))(b:List Bound):RR β→Prop
 | .ok v=>Ev f (.ok (J v))
 | .er e=>(e=10∨e=11)∧∃z,Ev f (.er e (b++z))
theorem dV.bind{α β γ δ:Type}{J:β→α}{K:γ→δ}{f:Nat→Option (PZ α (List Bound))}{b:List Bound}{r:RR β}{g:α→Nat→Option (PZ δ (List Bound))}{k:β→RR γ}(h1:dV J f b r)(h2:∀v,r=.ok v→dV K (g (J v)) b (k v)):
  dV K (fun n=>(f n).bind (PZ.el (fun x=>g x n) (fun e z=>some (.er e z)))) b (r.thn k):=by
 cases r with
 |er e=>obtain⟨he,z,hz⟩:=h1;exact⟨he,z,Ev.bind hz (Ev.ret _)⟩
 |ok v=>
  have h3:=h2 v rfl;show dV K _ b (k v);cases hk:k v with
  |ok w=>rw[hk]at h3;exact Ev.bind h1 h3
  |er e=>rw[hk]at h3;obtain⟨he,z,hz⟩:=h3;exact⟨he,z,Ev.bind h1 hz⟩
theorem dV.mono{α β:Type}{J:β→α}{f g:Nat→Option (PZ α (List Bound))}{b:List Bound}{r:RR β}(h:∀v,Ev f v→Ev g v)(h1:dV J f b r):dV J g b r:=by
 cases r with
 |ok v=>exact h _ h1
 |er e=>obtain⟨he,z,hz⟩:=h1;exact⟨he,z,h _ hz⟩
theorem dV.succ{α β:Type}{J:β→α}{f:Nat→Option (PZ α (List Bound))}{b:List Bound}{r:RR β}(h:dV J (fun n=>f (n+1)) b r):dV J f b r:=dV.mono (fun _=>Ev.succ) h
abbrev vb(b:List Bound)(v:Val):Val×List Bound:=(v,b)
theorem dV.same{f:Nat→Option (PZ (Val×List Bound) (List Bound))}{b:List Bound}{r:VR}(h:dV (vb b) f b r):dV (vb b) (fun n=>(f n).bind (PZ.el (fun x=>some (.ok (x.1,x.2))) (fun e z=>some (.er e z)))) b r:=by
 cases r with
 |ok v=>exact Ev.bind h (Ev.ret _)
 |er e=>obtain⟨he,z,hz⟩:=h;exact⟨he,z,Ev.bind hz (Ev.ret _)⟩
def Er{β:Type}(r:RR β):Prop:=∀e,r=.er e→e=10∨e=11
theorem Er.ok{β:Type}(v:β):Er (.ok v):=fun e h=>by cases h
theorem Er.e10{β:Type}:Er (.er 10:RR β):=fun e h=>by cases h;exact .inl rfl
theorem Er.e11{β:Type}:Er (.er 11:RR β):=fun e h=>by cases h;exact .inr rfl
theorem Er.cnd{β:Type}{b:Bool}{x y:RR β}(h1:Er x)(h2:Er y):Er (cond b x y):=by grind
theorem dV.pure{f:Nat→Option (PZ Val Unit)}{r:VR}{b:List Bound}(h:Ev f (pz r))(he:Er r):dV (vb b) (fun n=>(f n).bind (PZ.el (fun x=>some (.ok (x,b))) (fun e _=>some (.er e b)))) b r:=by
 cases r with
 |ok v=>exact Ev.bind h (Ev.ret _)
 |er e=>exact⟨he e rfl,[],Ev.bind h (by rw[qAt];exact Ev.ret _)⟩
theorem Er.int(n:Int):Er (gM n):=Er.cnd Er.e11 (Er.ok _)
theorem Er.bnd(l:List Val):Er (bF l):=Er.cnd Er.e11 (Er.ok _)
theorem Er.apply(op:Int)(a b:Val):Er (CG op a b):=by
 have hA:Er (LV a b):=by
  unfold LV;split
  ·exact Er.ok _
  ·exact Er.e10
 have h1:Er (match a.kids with|[]=>(.er 10:VR)|x::_=>.ok x):=by split;exact Er.e10;exact Er.ok _
 have h2:Er (match a.kids.getLast? with|none=>(.er 10:VR)|some x=>.ok x):=by split;exact Er.e10;exact Er.ok _
 have hR:Er (ai1 op a.n b.n):=Er.cnd (Er.int _) (Er.cnd (Er.int _) (Er.cnd (Er.int _) (Er.cnd (Er.int _) (Er.cnd (Er.cnd Er.e10 (Er.int _)) (Er.cnd Er.e10 (Er.int _))))));have hS:Er (sF op a b):=by
  have o:=fun l=>Er.ok (β:=List Val) l;have hr:Er (l8 op a.kids b.kids):=Er.cnd (o _) (Er.cnd Er.e11 (o _));exact Er.cnd (Er.cnd Er.e11 (o _)) (Er.cnd (o _) (Er.cnd (o _) (Er.cnd (o _) (Er.cnd (Er.cnd Er.e11 (o _)) (Er.cnd (o _) (Er.cnd (o _) (Er.cnd (o _) (Er.cnd (o _) (Er.cnd (o _) (Er.cnd (o _) (Er.cnd (Er.cnd Er.e11 (o _)) (Er.cnd (o _) (Er.cnd (o _) (Er.cnd (o _) (Er.cnd (o _) hr)))))))))))))))
 have hT:Er ((sF op a b).thn bF):=by
  cases hq:sF op a b with
  |ok l=>exact Er.bnd l
  |er e=>exact fun e' h=>by cases h;exact hS e hq
 have o:=fun v=>Er.ok (β:=Val) v;exact Er.cnd (o _) (Er.cnd (o _) (Er.cnd (o _) (Er.cnd (o _) (Er.cnd (o _) (Er.cnd (o _) (Er.cnd (o _) (Er.cnd (o _) (Er.cnd (o _) (Er.cnd hA (Er.cnd hR (Er.cnd (Er.int _) (Er.cnd h1 (Er.cnd h2 hT)))))))))))))
section
variable {cs:List Carrier}{ds:List Decl}{sz:List Int}{m:List (Str×Val)}{g:Str→Val}
def nK(cs:List Carrier)(ds:List Decl)(sz:List Int)(m:List (Str×Val))(g:Str→Val)(t:Tm)(bs:List Bound):Prop:=dV (vb bs.reverse) (fun n=>aM n cs ds sz m bs.reverse t) bs.reverse (aj g t bs)
theorem ahl{op:Int}{nm:Str}{k:Int}{u:Ty}{x y:Tm}{bs:List Bound}(ho:op=4∨op=5∨op=6)(hx:nK cs ds sz m g x bs)(hy:nK cs ds sz m g y bs):
  dV (vb bs.reverse) (fun n=>dD n cs ds sz m bs.reverse (.mk op nm k u [x,y])) bs.reverse (aj g (.mk op nm k u [x,y]) bs):=by
 rw[bG];refine dV.succ ?_;show dV _ (fun n=>tV n _ _ _ _ _ (aM n) _ _ _ _ _ _ _) _ _;unfold tV;have e:Za g op nm k ([x,y].map (nu g)) bs=(aj g x bs).thn fun p=>cond (op==4&&!(p.n==1)) (.ok (aO false)) (cond ((op==5&&p.n==1) ||(op==6&&!(p.n==1))) (.ok (aO true)) (aj g y bs)):=by
  rcases ho with rfl|rfl|rfl<;>rfl
 rw[e];refine dV.bind (K:=vb bs.reverse) (f:=fun n=>aM n cs ds sz m bs.reverse x) hx fun p _=>?_;have hs:=dV.same hy;have t1:dV (vb bs.reverse) (fun n=>((bN n false).bind fun(v:Val)=>some (.ok (v,bs.reverse)))) bs.reverse (.ok (aO false)):=Ev.bind (CQ _) (Ev.ret _);have t2:dV (vb bs.reverse) (fun n=>((bN n true).bind fun(v:Val)=>some (.ok (v,bs.reverse)))) bs.reverse (.ok (aO true)):=Ev.bind (CQ _) (Ev.ret _);rcases ho with rfl|rfl|rfl
 ·cases hp:(p.n==1)
  ·simp only[vb,hp];exact t1
  ·simp only[vb,hp];exact hs
 ·cases hp:(p.n==1)
  ·simp only[vb,hp];exact hs
  ·simp only[vb,hp];exact t2
 ·cases hp:(p.n==1)
  ·simp only[vb,hp];exact t2
  ·simp only[vb,hp];exact hs
def stB(op:Int)(x y:Val)(s:List Val×Bool×Bool):List Val×Bool×Bool:=cond (op==56) (s.1++[aG x y],s.2.1,s.2.2) (cond (y.n==1) (s.1++[x],true,s.2.2) (s.1,s.2.1,false))
def Ol(op:Int):List Val→List Val→List Val×Bool×Bool→List Val×Bool×Bool
 |x::xs,y::ys,s=>Ol op xs ys (stB op x y s)
 |_,_,s=>s
theorem atM(n:Nat)(x y:Val)(op:Int)(nm:Str)(k q:Int)(r:Str)(ts:List Ty)(ks:List Tm)(l:List Val)(so al:Bool)(hl:l.length≤1000000):tQ n x y op nm k q r ts ks l so al=some (stB op x y (l,so,al)):=by
 have h1:∀v:Val,upd (l++[Val.mk 0 0 [] []]) (l.length:Int) v=l++[v]:=fun v=>by
  unfold upd
  simp_all
 unfold tQ stB;rw[dQ (by simp;omega)];cases op==56
 ·cases y.n==1
  ·rfl
  ·simp only[cond_false,cond_true,qAb,gJ,h1]
 ·simp only[qAb,gJ,h1];rfl
theorem YS(l:List Bound)(a b:Bound):idx (l++[a]) (((l++[a]).length:Int) - 1)=some a∧upd (l++[a]) (((l++[a]).length:Int) - 1) b=l++[b]:=by
 have e:(((l++[a]).length:Int) - 1)=(l.length:Int):=by simp
 rw[e,gJ];unfold upd
 simp_all
theorem aFo(op:Int)(x y:Val)(s:List Val×Bool×Bool):(stB op x y s).1.length≤s.1.length+1:=by
 unfold stB
 grind
def ai4(cs:List Carrier)(ds:List Decl)(sz:List Int)(m:List (Str×Val))(t:Tm)(v:Val×List Bound)(n:Nat):=pq n (bJ n) (bK n) (bI n) (dw n) (dJ n) (aM n) (dD n) cs ds sz m t t.op t.name t.n t.ty.kind t.ty.name t.ty.kids t.kids v
def apv(cs:List Carrier)(ds:List Decl)(sz:List Int)(m:List (Str×Val))(t:Tm)(v:Val×List Bound)(n k:Nat):=aL (ai4 cs ds sz m t v n) k
theorem alT(cs:List Carrier)(ds:List Decl)(sz:List Int)(m:List (Str×Val))(t:Tm)(v:Val×List Bound)(n k:Nat)(s:Int×Bool×Bool×List Bound×List Val):apv cs ds sz m t v n (k+1) s=ai4 cs ds sz m t v n (apv cs ds sz m t v n k) s:=rfl
theorem ayB{op:Int}{nm:Str}{k:Int}{u:Ty}{x y:Tm}{bs:List Bound}(v:Val):∀(suf pre:List Val) (s:List Val×Bool×Bool) (w:Val),v.kids=pre++suf→s.1.length+suf.length≤1000→(∀a∈suf,nK cs ds sz m g y (⟨nm,a⟩::bs))→
  ∃N,∃z,∃lz:List Val,((∀e,fH (aj g y) nm bs suf=.er e→e=10∨e=11))∧∀n,N≤n→∀j,suf.length+1≤j→
   apv cs ds sz m (.mk op nm k u [x,y]) (v,bs.reverse) n j ((pre.length:Int),s.2.1,s.2.2,bs.reverse++[⟨nm,w⟩],s.1)
   =some (match fH (aj g y) nm bs suf with
    | .ok ys=>.nx ((Ol op suf ys s).2.1,(Ol op suf ys s).2.2,bs.reverse++[⟨nm,(suf.getLast?).getD w⟩],(Ol op suf ys s).1)
    | .er e=>.rt (.er e (bs.reverse++z,lz))):=by
 intro suf
 induction suf with
 |nil=>
  intro pre s w hp _ _;refine⟨0,[],[],(fun e h=>by cases h),fun n _ j hj=>?_⟩;obtain⟨j,rfl⟩:∃q,j=q+1:=⟨j - 1,by omega⟩;rw[alT];unfold ai4 pq;rw[decide_eq_false (by rw[hp];simp)];rfl
 |cons a suf ih=>
  intro pre s w hp hl hE;have ha:=hE a (by simp);unfold nK at ha;have hi:idx v.kids (pre.length:Int)=some a:=(bg hp).2;have hlt:=(bg hp).1;have hee:fH (aj g y) nm bs (a::suf)=match aj g y (⟨nm,a⟩::bs)with| .er e=>.er e| .ok b=>(match fH (aj g y) nm bs suf with| .er e=>.er e| .ok l=>.ok (b::l)):=by
   unfold fH;rw[qAy];cases aj g y (⟨nm,a⟩::bs)<;>rfl
  simp only[qAp]at hl;cases hr:aj g y (⟨nm,a⟩::bs)with
  |er e=>
   rw[hr]at ha;obtain⟨he,z,N,hz⟩:=ha;refine⟨N,⟨nm,a⟩::z,s.1,fun e' h=>?_,fun n hn j hj=>?_⟩
   ·rw[hee,hr]at h;cases h;exact he
   ·obtain⟨j,rfl⟩:∃q,j=q+1:=⟨j - 1,by omega⟩;have hz:aM n cs ds sz m (Bound.mk nm a::bs).reverse y=_:=hz n hn;rw[qDh,qAm]at hz;rw[alT];unfold ai4 pq;rw[hlt,hee,hr];simp only[cond_true,hi,qAb,(YS bs.reverse ⟨nm,w⟩ ⟨nm,a⟩).1,(YS bs.reverse ⟨nm,w⟩ ⟨nm,a⟩).2,Tm.kids,show idx [x,y] 1=some y from rfl];rw[hz];rfl
  |ok b=>
   rw[hr]at ha;obtain⟨N1,h1⟩:=ha;obtain⟨N2,z,lz,h2,h3⟩:=ih (pre++[a]) (stB op a b s) a (by simp[hp]) (by have:=aFo op a b s;omega) (fun c hc=>hE c (by simp[hc]));refine⟨N1+N2,z,lz,fun e h=>?_,fun n hn j hj=>?_⟩
   ·rw[hee,hr]at h;cases hq:fH (aj g y) nm bs suf with
    |ok l=>rw[hq]at h;cases h
    |er e'=>rw[hq]at h;cases h;exact h2 _ hq
   ·obtain⟨j,rfl⟩:∃q,j=q+1:=⟨j - 1,by omega⟩;have h1:aM n cs ds sz m (Bound.mk nm a::bs).reverse y=_:=h1 n (by omega);simp only[vb]at h1;rw[qDh]at h1;have h3:=h3 n (by omega) j (by simp at hj;omega);rw[alT];unfold ai4 pq;rw[hlt,hee,hr];simp only[cond_true,hi,qAb,(YS bs.reverse ⟨nm,w⟩ ⟨nm,a⟩).1,(YS bs.reverse ⟨nm,w⟩ ⟨nm,a⟩).2,Tm.kids,show idx [x,y] 1=some y from rfl,h1,PZ.el];rw[atM n _ _ _ _ _ _ _ _ _ _ _ _ (by omega)];simp only[qAb];rw[show(pre.length:Int)+1=((pre++[a]).length:Int) by simp];refine h3.trans ?_;cases hq:fH (aj g y) nm bs suf with
    |er e=>rfl
    |ok ys=>
     cases suf with
     |nil=>rfl
     |cons c suf=>rfl
end
end
section
open Go
section
variable {cs:List Carrier}{ds:List Decl}{sz:List Int}{m:List (Str×Val)}{g:Str→Val}
theorem ak0(op:Int):∀(xs ys:List Val) (s:List Val×Bool×Bool),ys.length=xs.length→Ol op xs ys s=(s.1++(xs.zip ys).flatMap (fun p=>cond (op==56) [aG p.1 p.2] (cond (p.2.n==1) [p.1] [])),cond (op==56) s.2.1 (s.2.1 ||ys.any fun y=>y.n==1),cond (op==56) s.2.2 (s.2.2&&ys.all fun y=>y.n==1))
 |[],[],s,_=>by
  obtain⟨a,b,c⟩:=s;cases hq:(op==56)<;>simp[Ol]
 |[],y::ys,s,h=>by simp at h
 |x::xs,[],s,h=>by simp at h
 |x::xs,y::ys,s,h=>by
  rw[Ol,ak0 op xs ys _ (by simpa using h)];unfold stB;obtain⟨a,b,c⟩:=s;cases hq:(op==56)<;>cases hy:(y.n==1)<;>simp[hy]
theorem alV{α:Type}(f:α→VR)(xs:List α)(ys:List Val)(h:aN (xs.map f)=.ok ys):ys.length=xs.length:=(seq_ok f xs ys h).1
theorem aAp{op:Int}{nm:Str}{k:Int}{u:Ty}{x y:Tm}{bs:List Bound}(ho:bY op=true)(hx:nK cs ds sz m g x bs)(hb:bs.length≤1000)(hl:∀v,aj g x bs=.ok v→v.kids.length≤256)(hy:∀v,aj g x bs=.ok v→∀a∈v.kids,nK cs ds sz m g y (⟨nm,a⟩::bs)):
  dV (vb bs.reverse) (fun n=>dJ n cs ds sz m bs.reverse (.mk op nm k u [x,y])) bs.reverse (aj g (.mk op nm k u [x,y]) bs):=by
 have hE:dV (fun(q:List Val×Bool×Bool)=>(bs.reverse,q.1,q.2.1,q.2.2)) (fun n=>(dw n cs ds sz m bs.reverse (.mk op nm k u [x,y]) op nm k u.kind u.name u.kids [x,y] [] false true).bind fun r=>some (match r with| .ok a=>PZ.ok a| .er e z=>.er e z.1)) bs.reverse
   ((aj g x bs).thn fun s=>(fH (aj g y) nm bs s.kids).thn fun ys=>RR.ok (Ol op s.kids ys ([],false,true))):=by
  refine dV.mono (f:=fun n=>(dw (n+1) cs ds sz m bs.reverse (.mk op nm k u [x,y]) op nm k u.kind u.name u.kids [x,y] [] false true).bind fun r=>some (match r with| .ok a=>PZ.ok a| .er e z=>.er e z.1)) (fun v h=>Ev.succ h) ?_
  show dV _ (fun n=>(zu n _ _ _ _ _ (aM n) _ _ _ _ _ _ _ _ _ _ _ _ _ _ _ _ _).bind _) _ _;unfold zu;unfold nK at hx;cases hr:aj g x bs with
  |er e=>
   rw[hr]at hx;obtain⟨he,z,hz⟩:=hx;show dV _ _ _ (RR.er e);exact⟨he,z,Ev.bind (Ev.bind (a:=x) (Ev.of fun _=>rfl) (Ev.bind hz (Ev.ret _))) (Ev.ret _)⟩
  |ok v=>
   rw[hr]at hx;obtain⟨N,z,lz,h2,h3⟩:=ayB (op:=op) (k:=k) (u:=u) (x:=x) v v.kids [] ([],false,true) v0 rfl (by have:=hl v hr;simp;omega) (hy v hr);obtain⟨N1,h1⟩:=hx;have happ:app 72 bs.reverse [Bound.mk nm (Val.mk 0 0 [] [])]=some (bs.reverse++[⟨nm,v0⟩]):=by
    unfold app;rw[if_pos ⟨by simp;omega,by simp;omega⟩];rfl
   have hw:∀n,N+N1+v.kids.length+1≤n→apv cs ds sz m (.mk op nm k u [x,y]) (v,bs.reverse) n n (0,false,true,bs.reverse++[⟨nm,v0⟩],[])=_:=fun n hn=>h3 n (by omega) n (by omega);have hfin:∀(w:Bound),((FJ (List.length (bs.reverse++[w])) (((bs.reverse++[w]).length:Int) - 1)).bind fun(x4:Nat)=>(cond (Nat.ble x4 (List.length (bs.reverse++[w]))) (some (List.take x4 (bs.reverse++[w]))) none))=some bs.reverse:=by
    intro w;unfold FJ;rw[show(((bs.reverse++[w]).length:Int) - 1)=(bs.reverse.length:Int) by simp,if_pos ⟨by omega,by simp;omega⟩,qBM];simp only[qAb];rw[show Nat.ble bs.reverse.length (bs.reverse++[w]).length=true by rw[Nat.ble_eq];simp];simp
   show dV _ (fun n=>_) _ ((fH (aj g y) nm bs v.kids).thn fun ys=>RR.ok (Ol op v.kids ys ([],false,true)));cases hq:fH (aj g y) nm bs v.kids with
   |er e=>
    show dV _ _ _ (RR.er e);refine⟨h2 e hq,z,N+N1+v.kids.length+1,fun n hn=>?_⟩;have h1:aM n cs ds sz m bs.reverse x=_:=h1 n (by omega);have h4:=hw n hn;rw[hq]at h4;change BR n _ _ _ _ _ _ _ _ _ _ _ (Tm.mk op nm k u [x,y]) op nm k u.kind u.name u.kids [x,y] _ _ _=_ at h4;simp only[Tm.kids,Tm.name,show idx [x,y] 0=some x from rfl,qAb,h1,PZ.el,vb,happ];rw[h4];rfl
   |ok ys=>
    show dV _ _ _ (RR.ok _);refine⟨N+N1+v.kids.length+1,fun n hn=>?_⟩;have h1:aM n cs ds sz m bs.reverse x=_:=h1 n (by omega);have h4:=hw n hn;rw[hq]at h4;change BR n _ _ _ _ _ _ _ _ _ _ _ (Tm.mk op nm k u [x,y]) op nm k u.kind u.name u.kids [x,y] _ _ _=_ at h4;simp only[Tm.kids,Tm.name,show idx [x,y] 0=some x from rfl,qAb,h1,PZ.el,vb,happ];rw[h4];have hf:=hfin ⟨nm,v.kids.getLast?.getD v0⟩;simp only[qAb,LR.el];unfold FJ at hf⊢;split at hf
    ·rename_i hc;rw[if_pos hc];simp only[qAb]at hf⊢;generalize Nat.ble _ _=bb at hf⊢;cases bb with
     |false=>cases hf
     |true=>simp only[cond_true,qAb]at hf⊢;rw[Option.some.inj hf]
    ·cases hf
 rw[bG];have e:Za g op nm k ([x,y].map (nu g)) bs=(aj g x bs).thn fun s=>(fH (aj g y) nm bs s.kids).thn fun ys=>nZ op s.kids ys:=by
  unfold bY at ho;simp only[qBe,beq_iff_eq]at ho;rcases ho with rfl|rfl|rfl|rfl<;>rfl
 rw[e];refine dV.succ ?_;show dV _ (fun n=>vT n _ _ _ (dw n) _ _ _ _ _ _ _ _ _) _ _;unfold vT;have key:dV (vb bs.reverse) (fun n=>((dw n cs ds sz m bs.reverse (.mk op nm k u [x,y]) op nm k u.kind u.name u.kids [x,y] [] false true).bind fun r=>some (match r with| .ok a=>PZ.ok a| .er e z=>.er e z.1)).bind (PZ.el (fun(x1:(List Bound)×(List Val)×Bool×Bool)=>(cond (op==8) ((bN n x1.2.2.2).bind fun(x2:Val)=>some (.ok (x2,x1.1))) (cond (op==9) ((bN n x1.2.2.1).bind fun(x3:Val)=>some (.ok (x3,x1.1))) ((Ab n x1.2.1).bind (PZ.el (fun(x4:Val)=>some (.ok (x4,x1.1))) (fun(e1:Int) _=>some (.er e1 x1.1))))))) (fun(e2:Int) z2=>some (.er e2 z2)))) bs.reverse
   ((aj g x bs).thn fun s=>(fH (aj g y) nm bs s.kids).thn fun ys=>nZ op s.kids ys):=by
  have e2:((aj g x bs).thn fun s=>(fH (aj g y) nm bs s.kids).thn fun ys=>nZ op s.kids ys)=((aj g x bs).thn fun s=>(fH (aj g y) nm bs s.kids).thn fun ys=>RR.ok (Ol op s.kids ys ([],false,true))).thn fun q=>cond (op==8) (.ok (aO q.2.2)) (cond (op==9) (.ok (aO q.2.1)) (bF q.1)):=by
   cases hr:aj g x bs with
   |er e=>rfl
   |ok v=>
    show(fH (aj g y) nm bs v.kids).thn _=((fH (aj g y) nm bs v.kids).thn _).thn _;cases hq:fH (aj g y) nm bs v.kids with
    |er e=>rfl
    |ok ys=>
     show nZ op v.kids ys=cond (op==8) _ _;rw[ak0 op v.kids ys _ (alV _ _ _ hq)];unfold nZ;unfold bY at ho;simp only[qBe,beq_iff_eq]at ho;rcases ho with rfl|rfl|rfl|rfl<;>rfl
  rw[e2];refine dV.bind (K:=vb bs.reverse) hE fun q hq=>?_;obtain⟨v,hv,hq⟩:=then_ok hq;obtain⟨ys,hys,hq⟩:=then_ok hq;cases hq;have hlen:(Ol op v.kids ys ([],false,true)).1.length≤256:=by
   rw[ak0 op v.kids ys _ (alV _ _ _ hys)];have:=iF (fun(p:Val×Val)=>cond (op==56) [aG p.1 p.2] (cond (p.2.n==1) [p.1] [])) 1 (v.kids.zip ys) (fun p _=>by cases op==56<;>cases p.2.n==1<;>simp);have h3:=hl v hv;have h4:(v.kids.zip ys).length≤v.kids.length:=by rw[qDt];omega
   simp only[qAo];omega
  cases op==8 with
  |true=>exact Ev.bind (CQ _) (Ev.ret _)
  |false=>
   cases op==9 with
   |true=>exact Ev.bind (CQ _) (Ev.ret _)
   |false=>exact dV.pure (aqR (show(Ol op v.kids ys ([],false,true)).1.length*56≤_ by omega)) (Er.bnd _)
 refine dV.mono (fun v h=>?_) key;obtain⟨N,h⟩:=h;refine⟨N,fun n hn=>?_⟩;rw[←h n hn];simp only[qAb,Tm.op,Tm.name,Tm.n,Tm.ty,Tm.kids];cases dw n cs ds sz m bs.reverse (.mk op nm k u [x,y]) op nm k u.kind u.name u.kids [x,y] [] false true with
 |none=>rfl
 |some r=>cases r<;>rfl
theorem ar5{σ:Type}(f:Tm→VR)(b:List Bound)(zf:Tm→List Bound):∀(ks:List Tm) (acc:List Val),∃z,fG (fun x acc=>match f x with| .ok v=>LR.nx (acc++[v])| .er e=>.rt (PZ.er (α:=σ) e (b++zf x))) (fun acc=>(acc,b)) ks acc=match aN (ks.map f)with| .ok l=>.nx (acc++l,b)| .er e=>.rt (.er e (b++z))
 |[],acc=>⟨[],by simp[fG,aN]⟩
 |x::ks,acc=>by
  rw[qAy];cases hx:f x with
  |er e=>exact⟨zf x,by simp only[fG,hx,aN]⟩
  |ok v=>
   obtain⟨z,h⟩:=ar5 f b zf ks (acc++[v]);refine⟨z,?_⟩;simp only[fG,hx,aN];rw[h];cases aN (ks.map f)with
   |er e=>rfl
   |ok l=>simp
theorem ajc{α:Type}(f:α→VR):∀(xs:List α),(∀x∈xs,Er (f x))→Er (aN (xs.map f))
 |[],_=>Er.ok _
 |x::xs,h=>by
  have h1:=h x (by simp);have h2:=ajc f xs fun y hy=>h y (by simp[hy]);intro e he;rw[qAy]at he;cases hx:f x with
  |er e'=>rw[hx]at he;cases he;exact h1 _ hx
  |ok v=>
   rw[hx]at he;unfold aN at he;cases hs:aN (xs.map f)with
   |ok l=>rw[hs]at he;cases he
   |er e'=>rw[hs]at he;cases he;exact h2 _ hs
theorem nK.er{t:Tm}{bs:List Bound}(h:nK cs ds sz m g t bs):Er (aj g t bs):=fun e he=>by
 unfold nK at h;rw[he]at h;exact h.1
def aLt(cs:List Carrier)(ds:List Decl)(sz:List Int)(m:List (Str×Val))(t:Tm)(n:Nat):=Ky n (bJ n) (bK n) (bI n) (dw n) (dJ n) (aM n) (dD n) cs ds sz m t
def axc(cs:List Carrier)(ds:List Decl)(sz:List Int)(m:List (Str×Val))(t:Tm)(n:Nat):=oH n (bJ n) (bK n) (bI n) (dw n) (dJ n) (aM n) (dD n) cs ds sz m t
theorem aAd{nm:Str}{k:Int}{u:Ty}{ks:List Tm}{bs:List Bound}(h:∀x∈ks,nK cs ds sz m g x bs)(hl:ks.length≤1000000):
  dV (vb bs.reverse) (fun n=>(aLt cs ds sz m (.mk 28 nm k u ks) n n (([]:List Val),0,bs.reverse)).bind (LR.el (fun(s6:(List Val)×(List Bound))=>((Ab n s6.1).bind (PZ.el (fun(x30:Val)=>some (.ok (x30,s6.2))) (fun(e13:Int) _=>some (.er e13 s6.2))))) (fun r=>some r))) bs.reverse ((aN (ks.map fun t=>aj g t bs)).thn bF):=by
 have hz:∀x:Tm,∃z,x∈ks→∀e,aj g x bs=.er e→Ev (fun n=>aM n cs ds sz m bs.reverse x) (.er e (bs.reverse++z)):=fun x=>by
  by_cases hx:x∈ks
  ·have h1:=h x hx;unfold nK at h1;cases hr:aj g x bs with
   |ok v=>exact⟨[],fun _ e he=>by cases he⟩
   |er e=>
    rw[hr]at h1;obtain⟨_,z,hz⟩:=h1;exact⟨z,fun _ e' he=>by cases he;exact hz⟩
  simp_all
 obtain⟨zf,hzf⟩:=qCu hz;have h1:=wI (Tm.mk 28 nm k u ks).kids (axc cs ds sz m (.mk 28 nm k u ks)) (fun i s=>(s,i,bs.reverse)) (fun x acc=>match aj g x bs with| .ok v=>LR.nx (acc++[v])| .er e=>.rt (PZ.er e (bs.reverse++zf x))) (fun acc=>(acc,bs.reverse)) (fun suf acc=>acc.length+suf.length≤1000000) (fun n rec s=>by unfold axc oH;rw[at_end];rfl) (fun pre x suf s e hI=>by
  have hx:x∈ks:=by have e:ks=_:=e;simp[e]
  have hE:=h x hx;unfold nK at hE;simp only[qAp]at hI;cases hr:aj g x bs with
  |er e'=>
   obtain⟨N,hN⟩:=hzf x hx e' hr;refine⟨⟨N,fun n hn rec=>?_⟩,fun s' hs=>by cases hs⟩;have hN:aM n cs ds sz m bs.reverse x=_:=hN n hn;unfold axc oH;rw[(bg e).1];simp only[cond_true,(bg e).2,qAb,hN,PZ.el]
  |ok v=>
   rw[hr]at hE;obtain⟨N,hN⟩:=hE;refine⟨⟨N,fun n hn rec=>?_⟩,fun s' hs=>by cases hs;simp;omega⟩;have hN:aM n cs ds sz m bs.reverse x=_:=hN n hn;unfold axc oH;rw[(bg e).1];simp only[cond_true,(bg e).2,qAb,hN,PZ.el,vb];rw[dQ (by simp;omega)];rfl) (s0:=[]) (qAs (qBm (qAL _)) hl)
 obtain⟨z,hrun⟩:=ar5 (σ:=Val×List Bound) (fun t=>aj g t bs) bs.reverse zf ks [];have h1:=Ev.eq h1 hrun;cases hs:aN (ks.map fun t=>aj g t bs)with
 |er e=>
  rw[hs]at h1;exact⟨ajc _ ks (fun x hx=>(h x hx).er) e hs,z,Ev.bind h1 (Ev.ret _)⟩
 |ok l=>
  rw[hs]at h1;have hll:=alV _ _ _ hs;refine dV.mono (fun v hv=>Ev.bind h1 hv) ?_;exact dV.pure (aqR (by simp only[qAo];omega)) (Er.bnd _)
end
end
section
open Go
section
variable {cs:List Carrier}{ds:List Decl}{sz:List Int}{m:List (Str×Val)}{g:Str→Val}
abbrev LSt:Type:=Int×Int×Int×Str×List Val×Int×Int×Str×List Val×List Bound
def Lx(cs:List Carrier)(ds:List Decl)(sz:List Int)(m:List (Str×Val))(t:Tm)(n:Nat):=gN n (bJ n) (bK n) (bI n) (dw n) (dJ n) (aM n) (dD n) cs ds sz m t
def LB(cs:List Carrier)(ds:List Decl)(sz:List Int)(m:List (Str×Val))(t:Tm)(n k:Nat):=aL (Lx cs ds sz m t n) k
theorem Qx(t:Tm)(n k:Nat)(s:LSt):LB cs ds sz m t n (k+1) s=Lx cs ds sz m t n (LB cs ds sz m t n k) s:=rfl
abbrev asw(op:Int)(n:Nat):LR (Int×Int×Str×(List Val)×Int×Int×Str×(List Val)×(List Bound)) (PZ (Val×(List Bound)) (List Bound))→Option (PZ (Val×(List Bound)) (List Bound)):=LR.el (fun(s8:Int×Int×Str×(List Val)×Int×Int×Str×(List Val)×(List Bound))=>((oz n op (Val.mk s8.1 s8.2.1 s8.2.2.1 s8.2.2.2.1) (Val.mk s8.2.2.2.2.1 s8.2.2.2.2.2.1 s8.2.2.2.2.2.2.1 s8.2.2.2.2.2.2.2.1)).bind (PZ.el (fun(x34:Val)=>some (.ok (x34,s8.2.2.2.2.2.2.2.2))) (fun(e15:Int) _=>some (.er e15 s8.2.2.2.2.2.2.2.2))))) (fun r=>some r)
theorem alv(v:Val):Val.mk v.kind v.n v.name v.kids=v:=by cases v;rfl
theorem aGd{op:Int}{nm:Str}{k:Int}{u:Ty}{x:Tm}{bs:List Bound}(hop:(op==28)=false)(hx:nK cs ds sz m g x bs)(hA:∀a,aj g x bs=.ok a→Ev (fun n=>oz n op a v0) (pz (CG op a v0))):
  dV (vb bs.reverse) (fun n=>(LB cs ds sz m (.mk op nm k u [x]) n n (0,0,0,([]:Str),([]:List Val),0,0,([]:Str),([]:List Val),bs.reverse)).bind (asw op n)) bs.reverse ((aN [aj g x bs]).thn (bB op)):=by
 unfold nK at hx;cases hr:aj g x bs with
 |er e=>
  rw[hr]at hx;obtain⟨he,z,N,hz⟩:=hx;refine⟨he,z,N+2,fun n hn=>?_⟩;have hz:aM n cs ds sz m bs.reverse x=_:=hz n (by omega);obtain⟨j,rfl⟩:∃j,n=j+2:=⟨n - 2,by omega⟩;dsimp only;rw[Qx];unfold Lx gN;simp only[Tm.kids,show idx [x] 0=some x from rfl,qAb,hz]<;>rfl
 |ok a=>
  rw[hr]at hx;obtain⟨N,h1⟩:=hx;have hA:=hA a hr;have e:(aN [(.ok a:VR)]).thn (bB op)=CG op a v0:=by
   unfold bB;rw[hop];rfl
  rw[e];refine dV.mono (f:=fun n=>(oz n op a v0).bind (PZ.el (fun(x34:Val)=>some (.ok (x34,bs.reverse))) (fun(e15:Int) _=>some (.er e15 bs.reverse)))) (fun v hv=>?_) (dV.pure hA (Er.apply op a v0));obtain⟨M,hM⟩:=hv;refine⟨N+M+2,fun n hn=>?_⟩;rw[←hM n (by omega)];have h1:aM n cs ds sz m bs.reverse x=_:=h1 n (by omega);have hj:n=(n - 2)+1+1:=by omega
  have hl:LB cs ds sz m (.mk op nm k u [x]) n n (0,0,0,([]:Str),([]:List Val),0,0,([]:Str),([]:List Val),bs.reverse)=some (.nx (a.kind,a.n,a.name,a.kids,0,0,[],[],bs.reverse)):=by
   conv=>lhs;arg 7;rw[hj]
   rw[Qx];unfold Lx gN;simp only[Tm.kids,cond_true,show idx [x] 0=some x from rfl,qAb,h1,PZ.el,LR.el,show((0:Int)==0)=true from rfl];rw[show ∀s,LB cs ds sz m (.mk op nm k u [x]) n (n - 2+1) s=Lx cs ds sz m (.mk op nm k u [x]) n (LB cs ds sz m (.mk op nm k u [x]) n (n - 2)) s from fun s=>Qx _ _ _ s];rfl
  simp only[hl,qAb,asw,LR.el,alv];rfl
theorem aGG{op:Int}{nm:Str}{k:Int}{u:Ty}{x y:Tm}{bs:List Bound}(hop:(op==28)=false)(hx:nK cs ds sz m g x bs)(hy:nK cs ds sz m g y bs)(hA:∀a b,aj g x bs=.ok a→aj g y bs=.ok b→Ev (fun n=>oz n op a b) (pz (CG op a b))):
  dV (vb bs.reverse) (fun n=>(LB cs ds sz m (.mk op nm k u [x,y]) n n (0,0,0,([]:Str),([]:List Val),0,0,([]:Str),([]:List Val),bs.reverse)).bind (asw op n)) bs.reverse ((aN [aj g x bs,aj g y bs]).thn (bB op)):=by
 unfold nK at hx hy;have e1:decide ((0:Int)<([x,y].length:Int))=true:=rfl;have e2:decide ((0:Int)+1<([x,y].length:Int))=true:=rfl;have e3:decide ((0:Int)+1+1<([x,y].length:Int))=false:=rfl;cases hr:aj g x bs with
 |er e=>
  rw[hr]at hx;obtain⟨he,z,N,hz⟩:=hx;show dV _ _ _ (RR.er e);refine⟨he,z,N+2,fun n hn=>?_⟩;have hz:aM n cs ds sz m bs.reverse x=_:=hz n (by omega);obtain⟨j,rfl⟩:∃j,n=j+2:=⟨n - 2,by omega⟩;dsimp only;rw[Qx];unfold Lx gN;simp only[Tm.kids,e1,cond_true,show idx [x,y] 0=some x from rfl,qAb,hz,PZ.el,LR.el]<;>rfl
 |ok a=>
  rw[hr]at hx;obtain⟨N,h1⟩:=hx;cases hq:aj g y bs with
  |er e=>
   rw[hq]at hy;obtain⟨he,z,M,hz⟩:=hy;show dV _ _ _ (RR.er e);refine⟨he,z,N+M+3,fun n hn=>?_⟩;have h1:aM n cs ds sz m bs.reverse x=_:=h1 n (by omega);have hz:aM n cs ds sz m bs.reverse y=_:=hz n (by omega);have hj:n=(n - 2)+1+1:=by omega
   dsimp only;rw[show LB cs ds sz m (.mk op nm k u [x,y]) n n (0,0,0,([]:Str),([]:List Val),0,0,([]:Str),([]:List Val),bs.reverse)=some (.rt (.er e (bs.reverse++z))) by
    conv=>lhs;arg 7;rw[hj]
    rw[Qx];unfold Lx gN;simp only[Tm.kids,e1,cond_true,show idx [x,y] 0=some x from rfl,qAb,h1,PZ.el,LR.el,vb,show((0:Int)==0)=true from rfl];rw[show ∀s,LB cs ds sz m (.mk op nm k u [x,y]) n (n - 2+1) s=Lx cs ds sz m (.mk op nm k u [x,y]) n (LB cs ds sz m (.mk op nm k u [x,y]) n (n - 2)) s from fun s=>Qx _ _ _ s];unfold Lx gN;simp only[Tm.kids,e2,cond_true,show idx [x,y] (0+1)=some y from rfl,qAb,hz,PZ.el,LR.el];rfl]
   rfl
  |ok b=>
   rw[hq]at hy;obtain⟨M,h2⟩:=hy;have hA:=hA a b hr hq;have e:(aN [(.ok a:VR),.ok b]).thn (bB op)=CG op a b:=by
    show bB op [a,b]=_;unfold bB;rw[hop];rfl
   rw[e];refine dV.mono (f:=fun n=>(oz n op a b).bind (PZ.el (fun(x34:Val)=>some (.ok (x34,bs.reverse))) (fun(e15:Int) _=>some (.er e15 bs.reverse)))) (fun v hv=>?_) (dV.pure hA (Er.apply op a b));obtain⟨L,hL⟩:=hv;refine⟨N+M+L+3,fun n hn=>?_⟩;rw[←hL n (by omega)];have h1:aM n cs ds sz m bs.reverse x=_:=h1 n (by omega);have h2:aM n cs ds sz m bs.reverse y=_:=h2 n (by omega);have hj:n=(n - 3)+1+1+1:=by omega
   have hs:∀j s,LB cs ds sz m (.mk op nm k u [x,y]) n (j+1) s=Lx cs ds sz m (.mk op nm k u [x,y]) n (LB cs ds sz m (.mk op nm k u [x,y]) n j) s:=fun j s=>Qx _ _ _ s;have hl:LB cs ds sz m (.mk op nm k u [x,y]) n n (0,0,0,([]:Str),([]:List Val),0,0,([]:Str),([]:List Val),bs.reverse)=some (.nx (a.kind,a.n,a.name,a.kids,b.kind,b.n,b.name,b.kids,bs.reverse)):=by
    conv=>lhs;arg 7;rw[hj]
    rw[hs];unfold Lx gN;simp only[Tm.kids,e1,cond_true,show idx [x,y] 0=some x from rfl,qAb,h1,PZ.el,LR.el,vb,show((0:Int)==0)=true from rfl];rw[hs];unfold Lx gN;simp only[Tm.kids,e2,cond_true,cond_false,show idx [x,y] (0+1)=some y from rfl,qAb,h2,PZ.el,LR.el,vb,show((0:Int)+1==0)=false from rfl,show((0:Int)+1==1)=true from rfl];rw[hs];unfold Lx gN;rfl
   simp only[hl,qAb,asw,LR.el,alv]
theorem YI(n:Nat)(op:Int):yV n op=some (iO op):=by
 unfold yV iO
 grind
theorem avN(p:Val→Bool)(l:List Val):(((l.filter p).length:Int)==(l.length:Int))=l.all p:=by
 rw[qCe,beq_iff_eq,qAP,Int.natCast_inj,List.length_filter_eq_length_iff]
theorem aJc{y:Tm}{bs:List Bound}(hs:iO y.op=false)(hy:nK cs ds sz m g y bs):dV (fun l:List Val=>((l.headD v0).kids,bs.reverse)) (fun n=>bI n cs ds sz m bs.reverse y) bs.reverse (aN [aj g y bs]):=by
 refine dV.succ ?_;show dV _ (fun n=>rR n _ _ _ _ _ (aM n) _ _ _ _ _ _ _) _ _;unfold rR;simp only[YI,hs,qAb];unfold nK at hy;cases hr:aj g y bs with
 |er e=>rw[hr]at hy;obtain⟨he,z,hz⟩:=hy;exact⟨he,z,Ev.bind hz (Ev.ret _)⟩
 |ok v=>rw[hr]at hy;exact Ev.bind hy (Ev.ret _)
theorem aJB{nm:Str}{k:Int}{u:Ty}{z:Tm}{bs:List Bound}(hz:nK cs ds sz m g z bs):dV (fun l:List Val=>((l.headD v0).kids,bs.reverse)) (fun n=>bK n cs ds sz m bs.reverse (.mk 46 nm k u [z])) bs.reverse (aN [aj g z bs]):=by
 refine dV.succ ?_;show dV _ (fun n=>q9 n _ _ _ _ _ (aM n) _ _ _ _ _ _ _) _ _;unfold q9;simp only[YI,qAb];unfold nK at hz;cases hr:aj g z bs with
 |er e=>rw[hr]at hz;obtain⟨he,w,hw⟩:=hz;exact⟨he,w,Ev.bind hw (Ev.ret _)⟩
 |ok v=>rw[hr]at hz;exact Ev.bind hz (Ev.ret _)
theorem aJy{op:Int}{nm:Str}{k:Int}{u:Ty}{z w:Tm}{bs:List Bound}(ho:op=41∨op=42∨op=43∨op=44∨op=45)(hz:nK cs ds sz m g z bs)(hw:nK cs ds sz m g w bs):
  dV (fun l:List Val=>(op,nm,k,u.kind,u.name,u.kids,[z,w],(l.headD v0).kids,((l.drop 1).headD v0).kids,bs.reverse)) (fun n=>bJ n cs ds sz m bs.reverse (.mk op nm k u [z,w])) bs.reverse (aN [aj g z bs,aj g w bs]):=by
 refine dV.succ ?_;show dV _ (fun n=>rH n _ _ _ _ _ (aM n) _ _ _ _ _ _ _) _ _;unfold rH;have hs:iO op=true∧(op==46)=false:=by rcases ho with rfl|rfl|rfl|rfl|rfl<;>exact⟨rfl,rfl⟩
 simp only[YI,Tm.op,hs.1,hs.2];have e:aN [aj g z bs,aj g w bs]=(aj g z bs).thn fun a=>(aj g w bs).thn fun b=>RR.ok [a,b]:=by
  cases aj g z bs<;>cases aj g w bs<;>rfl
 rw[e];exact dV.bind hz fun a _=>dV.bind hw fun b _=>Ev.ret _
theorem aGw{env:Env}(hg:Xp env sz g){op:Int}{sc:List Decl}{t:Ty}{y:Tm}{bs:List Bound}(ho:op=16∨op=17∨op=18)(hs:Scp env sz sc bs)(hy:HT env sc y (au t))(hE:nK cs ds sz m g y bs)(hK:∀z∈y.kids,iO y.op=true→nK cs ds sz m g z bs)(a:Val)
  (ha:hasB env sz (cond (op==18) (au t) t) a=true) (la:a.kids.length≤256):
  dV (vb bs.reverse) (fun n=>cond (op==18)
    ((cond (decide (y.op<41) ||decide (46<y.op)) ((bI n cs ds sz m bs.reverse y).bind (PZ.el (fun(x21:(List Val)×(List Bound))=>((Gf n a.kids x21.1).bind fun(x22:List Val)=>((bN n ((x22.length:Int)==(a.kids.length:Int))).bind fun(x23:Val)=>some (.ok (x23,x21.2))))) (fun(e9:Int) z9=>some (.er e9 z9)))) (cond (y.op==46) ((bK n cs ds sz m bs.reverse y).bind (PZ.el (fun(x24:(List Val)×(List Bound))=>((Gq n a.kids x24.1).bind fun(x25:List Val)=>((bN n ((x25.length:Int)==(a.kids.length:Int))).bind fun(x26:Val)=>some (.ok (x26,x24.2))))) (fun(e10:Int) z10=>some (.er e10 z10)))) ((bJ n cs ds sz m bs.reverse y).bind (PZ.el (fun(x27:Int×Str×Int×Int×Str×(List Ty)×(List Tm)×(List Val)×(List Val)×(List Bound))=>((Gr n a.kids x27.1 x27.2.1 x27.2.2.1 x27.2.2.2.1 x27.2.2.2.2.1 x27.2.2.2.2.2.1 x27.2.2.2.2.2.2.1 x27.2.2.2.2.2.2.2.1 x27.2.2.2.2.2.2.2.2.1).bind fun(x28:List Val)=>((bN n ((x28.length:Int)==(a.kids.length:Int))).bind fun(x29:Val)=>some (.ok (x29,x27.2.2.2.2.2.2.2.2.2))))) (fun(e11:Int) z11=>some (.er e11 z11)))))))
    ((cond (decide (y.op<41) ||decide (46<y.op)) ((bI n cs ds sz m bs.reverse y).bind (PZ.el (fun(x9:(List Val)×(List Bound))=>((jM n a x9.1).bind fun(x10:Bool)=>((bN n (x10==(op==16))).bind fun(x11:Val)=>some (.ok (x11,x9.2))))) (fun(e5:Int) z5=>some (.er e5 z5)))) (cond (y.op==46) ((bK n cs ds sz m bs.reverse y).bind (PZ.el (fun(x12:(List Val)×(List Bound))=>((jP n a x12.1).bind fun(x13:Bool)=>((bN n (x13==(op==16))).bind fun(x14:Val)=>some (.ok (x14,x12.2))))) (fun(e6:Int) z6=>some (.er e6 z6)))) ((bJ n cs ds sz m bs.reverse y).bind (PZ.el (fun(x15:Int×Str×Int×Int×Str×(List Ty)×(List Tm)×(List Val)×(List Val)×(List Bound))=>((lF n a x15.1 x15.2.1 x15.2.2.1 x15.2.2.2.1 x15.2.2.2.2.1 x15.2.2.2.2.2.1 x15.2.2.2.2.2.2.1 x15.2.2.2.2.2.2.2.1 x15.2.2.2.2.2.2.2.2.1).bind fun(x16:Bool)=>((bN n (x16==(op==16))).bind fun(x17:Val)=>some (.ok (x17,x15.2.2.2.2.2.2.2.2.2))))) (fun(e7:Int) z7=>some (.er e7 z7))))))))
   bs.reverse (X9 op (nu g y) bs a):=by
 -- what a test makes of one value, or of a set
 have fin:∀{α:Type} {J:List Val→α} {f:Nat→Option (PZ α (List Bound))} {r:xU} {F:Nat→α→List Val→Option (List Val)} {D:Nat→Val→α→Option Bool} {B:α→List Bound},
   dV J f bs.reverse r→(∀l,B (J l)=bs.reverse)→(∀l,r=.ok l→∀x,hasB env sz t x=true→Ev (fun n=>D n x (J l)) (iB y.op l x))→(∀l,r=.ok l→op=18→Ev (fun n=>F n (J l) a.kids) (a.kids.filter (iB y.op l)))→
   dV (vb bs.reverse) (fun n=>cond (op==18) ((f n).bind (PZ.el (fun x=>((F n x a.kids).bind fun(q:List Val)=>((bN n ((q.length:Int)==(a.kids.length:Int))).bind fun(v:Val)=>some (.ok (v,B x))))) (fun e z=>some (.er e z))))
    ((f n).bind (PZ.el (fun x=>((D n a x).bind fun(q:Bool)=>((bN n (q==(op==16))).bind fun(v:Val)=>some (.ok (v,B x))))) (fun e z=>some (.er e z))))) bs.reverse
    (r.thn fun l=>.ok (aO (cond (op==18) (a.kids.all (iB y.op l)) (iB y.op l a==(op==16))))):=by
  intro α J f r F D B hf hB hD hF;cases h18:(op==18)with
  |true=>
   refine dV.bind hf fun l hl=>?_;have h1:=hF l hl (eq_of_beq h18);show Ev _ _;rw[cond_true,←avN,show vb bs.reverse _=(aO (((a.kids.filter (iB y.op l)).length:Int)==(a.kids.length:Int)),B (J l)) by rw[hB]];exact Ev.bind h1 (Ev.bind (CQ _) (Ev.ret _))
  |false=>
   rw[h18]at ha;refine dV.bind hf fun l hl=>?_;have h1:=hD l hl a ha;show Ev _ _;rw[cond_false,show vb bs.reverse _=(aO (iB y.op l a==(op==16)),B (J l)) by rw[hB]];exact Ev.bind h1 (Ev.bind (CQ _) (Ev.ret _))
 have hkids:op=18→∀x∈a.kids,hasB env sz t x=true:=fun h=>by
  subst h;obtain⟨l,rfl,_,h2⟩:=iV.1 ha;exact h2
 have S:∀{e:Ty} {w:Val},hasB env sz (au e) w=true→dO w.kids∧∀x∈w.kids,hasB env sz e x=true:=fun hw=>by
  obtain⟨l,rfl,h1,h2⟩:=iV.1 hw;exact⟨h1,h2⟩
 have la':a.kids.length≤1000000:=by omega
 have hsym:(decide (y.op<41) ||decide (46<y.op))=!(iO y.op):=by
  unfold iO
  grind
 rw[hsym];unfold X9 vv;show dV _ _ _ ((cond (iO y.op) (aN ((y.kids.map (aj g)).map fun g=>g bs)) (aN [aj g y bs])).thn _);by_cases hsy:iO y.op=true
 ·rw[hsy];cases hy with
  |fam q hq hz hw=>
   rename_i nm k u z w c d;have iz:=hK z (by simp[Tm.kids]) hsy;have iw:=hK w (by simp[Tm.kids]) hsy;have h46:(q==46)=false:=by rcases hq with rfl|rfl|rfl|rfl|rfl<;>rfl
   simp only[Tm.op,h46,cond_true,cond_false,qAv];have hT:∀l,aN [aj g z bs,aj g w bs]=.ok l→∃p r,l=[p,r]∧dO p.kids∧dO r.kids:=fun l hl=>by
    obtain⟨p,r,h1,h2,h3⟩:=seq2 (f:=fun l=>(RR.ok (mkSet l):VR)) (v:=mkSet l) (by rw[hl];rfl);cases h3;exact⟨p,r,rfl,(S (sound hg z sc _ bs p hz hs h1)).1,(S (sound hg w sc _ bs r hw hs h2)).1⟩
   have hD:∀l,aN [aj g z bs,aj g w bs]=.ok l→∀x,hasB env sz (au (aR c d)) x=true→Ev (fun n=>wu n q (l.headD v0).kids ((l.drop 1).headD v0).kids x.kids) (iB q l x):=fun l hl x hx=>by
    obtain⟨p,r,rfl,h1,h2⟩:=hT l hl;obtain⟨h3,h4⟩:=S hx;unfold iB;rw[show iO q=true from hsy,h46];exact ae6 q h1.1 h2.1 (Ap h1) (Ap h2) (fun v hv=>by
     obtain⟨s,t,rfl,_,_⟩:=qJ.1 (h4 v hv);exact⟨s,t,rfl⟩) (Ap h3)
   have h:=fin (α:=Int×Str×Int×Int×Str×(List Ty)×(List Tm)×(List Val)×(List Val)×(List Bound)) (F:=fun n x l=>Gr n l x.1 x.2.1 x.2.2.1 x.2.2.2.1 x.2.2.2.2.1 x.2.2.2.2.2.1 x.2.2.2.2.2.2.1 x.2.2.2.2.2.2.2.1 x.2.2.2.2.2.2.2.2.1) (D:=fun n v x=>lF n v x.1 x.2.1 x.2.2.1 x.2.2.2.1 x.2.2.2.2.1 x.2.2.2.2.2.1 x.2.2.2.2.2.2.1 x.2.2.2.2.2.2.2.1 x.2.2.2.2.2.2.2.2.1) (B:=fun x=>x.2.2.2.2.2.2.2.2.2) (aJy (nm:=nm) (k:=k) (u:=u) hq iz iw) (fun l=>rfl)
    (fun l hl x hx=>Ev.same (hD l hl x hx))
    (fun l hl h18=>D5 a.kids (fun n x=>lF n x q nm k u.kind u.name u.kids [z,w] (l.headD v0).kids ((l.drop 1).headD v0).kids) _ (fun x hx=>Ev.same (hD l hl x (hkids h18 x hx))) la')
   exact h
  |pow hz=>
   rename_i nm k u z c;have iz:=hK z (by simp[Tm.kids]) hsy;simp only[Tm.op,show((46:Int)==46)=true from rfl,cond_true,cond_false,qAv];have hD:∀l,aN [aj g z bs]=.ok l→∀x,hasB env sz (au c) x=true→Ev (fun n=>jP n x (l.headD v0).kids) (iB 46 l x):=fun l hl x hx=>by
    obtain⟨p,h1,h3⟩:=seq1 (f:=fun l=>(RR.ok (mkSet l):VR)) (v:=mkSet l) (by rw[hl];rfl);cases h3;have hp:=(S (sound hg z sc _ bs p hz hs h1)).1;have hx:=(S hx).1;show Ev _ (x.kids.all (aF p.kids));rw[←avN];exact Ev.bind (D5 x.kids (fun n v=>vO n v p.kids) (aF p.kids) (fun v _=>hp.has v) (Ap hx)) (Ev.ret _)
   have h:=fin (α:=List Val×List Bound) (F:=fun n x l=>Gq n l x.1) (D:=fun n v x=>jP n v x.1) (B:=fun x=>x.2) (aJB (nm:=nm) (k:=k) (u:=u) iz) (fun l=>rfl) hD
    (fun l hl h18=>D5 a.kids (fun n x=>jP n x (l.headD v0).kids) _ (fun x hx=>hD l hl x (hkids h18 x hx)) la')
   exact h
  |bin q hq=>rcases hq with rfl|rfl|rfl<;>cases hsy
  |dres q hq=>rcases hq with rfl|rfl<;>cases hsy
  |rres q hq=>rcases hq with rfl|rfl<;>cases hsy
  |_=>cases hsy
 ·rw[qDp]at hsy;rw[hsy];simp only[cond_true,cond_false,qBb];have hD:∀l,aN [aj g y bs]=.ok l→∀x:Val,Ev (fun n=>jM n x (l.headD v0).kids) (iB y.op l x):=fun l hl x=>by
   obtain⟨p,h1,h3⟩:=seq1 (f:=fun l=>(RR.ok (mkSet l):VR)) (v:=mkSet l) (by rw[hl];rfl);cases h3;have hp:=(S (sound hg y sc _ bs p hy hs h1)).1;unfold iB;rw[hsy];exact hp.has x
  have h:=fin (α:=List Val×List Bound) (F:=fun n x l=>Gf n l x.1) (D:=fun n v x=>jM n v x.1) (B:=fun x=>x.2) (aJc hsy hE) (fun l=>rfl) (fun l hl x _=>hD l hl x)
   (fun l hl h18=>D5 a.kids (fun n x=>jM n x (l.headD v0).kids) _ (fun x hx=>hD l hl x) la')
  exact h
end
end
section
open Go
section
variable {cs:List Carrier}{ds:List Decl}{sz:List Int}{m:List (Str×Val)}{g:Str→Val}
theorem ar0{env:Env}{sc:List Decl}{bs:List Bound}(h:Scp env sz sc bs)(s:Str)(hb:bs.find? (fun b=>b.name==s)=none):sc.find? (fun d=>d.name==s)=none:=by
 induction h with
 |nil=>rfl
 |cons h k ih=>
  grind
def LkE(env:Env)(cs:List Carrier)(ds:List Decl)(sz:List Int)(m:List (Str×Val))(g:Str→Val):Prop:=∀s t,look env s=some t→∀b,Ev (fun n=>adY n cs ds sz m b s) (.ok (g s))
theorem azl{env:Env}(hk:LkE env cs ds sz m g){sc:List Decl}{bs:List Bound}(h:Scp env sz sc bs){s:Str}{t:Ty}(ht:nJ env sc s=some t):Ev (fun n=>nY n cs ds sz m bs.reverse s) (pz (.ok (Ml g bs s))):=by
 unfold nY Ml;rw[List.reverse_reverse];cases hb:bs.find? (fun b=>b.name==s)with
 |some b=>exact Ev.ret _
 |none=>
  unfold nJ at ht;rw[ar0 h s hb]at ht;exact hk s t ht _
theorem lT{t:Tm}{bs:List Bound}(h:dV (vb bs.reverse) (fun n=>sI n (bJ n) (bK n) (bI n) (dw n) (dJ n) (aM n) (dD n) cs ds sz m bs.reverse t) bs.reverse (aj g t bs)):nK cs ds sz m g t bs:=dV.succ h
def xw(op:Int):Bool:=op==3 ||(op==7 ||(decide (10≤op)&&decide (op≤15) ||(decide (21≤op)&&decide (op≤27) ||decide (30≤op)&&decide (op≤54))))
theorem aqZ(n:Nat){r1 r2 r3 r4 r5 r6 r7}{op:Int}{nm:Str}{k:Int}{u:Ty}{ks:List Tm}{b:List Bound}(h:xw op=true):
  sI n r1 r2 r3 r4 r5 r6 r7 cs ds sz m b (.mk op nm k u ks)=(Kn n r1 r2 r3 r4 r5 r6 r7 cs ds sz m (.mk op nm k u ks) n (0,0,0,([]:Str),([]:List Val),0,0,([]:Str),([]:List Val),b)).bind (asw op n):=by
 unfold xw at h;simp at h;have e:∀c:Int,(c=1∨c=2∨c=19∨c=20∨c=29∨c=4∨c=5∨c=6∨c=8∨c=9∨c=55∨c=56∨c=16∨c=17∨c=18∨c=28)→(op==c)=false:=fun c hc=>by
  rw[beq_eq_false_iff_ne];omega
 unfold sI;simp only[Tm.op,e 1 (by omega),e 2 (by omega),e 19 (by omega),e 20 (by omega),e 29 (by omega),e 4 (by omega),e 5 (by omega),e 6 (by omega),e 8 (by omega),e 9 (by omega),e 55 (by omega),e 56 (by omega),e 16 (by omega),e 17 (by omega),e 18 (by omega),e 28 (by omega),cond_false,qAb]
theorem adW{op:Int}{nm:Str}{k:Int}{ks:List Kd}{bs:List Bound}(h:xw op=true):Za g op nm k ks bs=(aN (ks.map fun k=>k.f bs)).thn (bB op):=by
 unfold xw at h;simp at h;have e:∀c:Int,(c=1∨c=2∨c=19∨c=20∨c=29∨c=4∨c=5∨c=6∨c=8∨c=9∨c=55∨c=56∨c=16∨c=17∨c=18∨c=28)→(op==c)=false:=fun c hc=>by
  rw[beq_eq_false_iff_ne];omega
 unfold Za bY
 grind
theorem app1{op:Int}{nm:Str}{k:Int}{u:Ty}{x:Tm}{bs:List Bound}(h:xw op=true)(hx:nK cs ds sz m g x bs)(hA:∀a,aj g x bs=.ok a→Ev (fun n=>oz n op a v0) (pz (CG op a v0))):nK cs ds sz m g (.mk op nm k u [x]) bs:=by
 have h28:(op==28)=false:=by
  unfold xw at h
  grind
 refine lT ?_;rw[bG,adW h];simp only[aqZ _ h];exact aGd h28 hx hA
theorem Fq{op:Int}{nm:Str}{k:Int}{u:Ty}{x y:Tm}{bs:List Bound}(h:xw op=true)(hx:nK cs ds sz m g x bs)(hy:nK cs ds sz m g y bs)(hA:∀a b,aj g x bs=.ok a→aj g y bs=.ok b→Ev (fun n=>oz n op a b) (pz (CG op a b))):nK cs ds sz m g (.mk op nm k u [x,y]) bs:=by
 have h28:(op==28)=false:=by
  unfold xw at h
  grind
 refine lT ?_;rw[bG,adW h];simp only[aqZ _ h];exact aGG h28 hx hy hA
theorem arW{env:Env}(hg:Xp env sz g){op:Int}{nm:Str}{k:Int}{u:Ty}{sc:List Decl}{t:Ty}{x y:Tm}{bs:List Bound}(ho:op=16∨op=17∨op=18)(hs:Scp env sz sc bs)(hx:HT env sc x (cond (op==18) (au t) t))(hy:HT env sc y (au t))(hX:nK cs ds sz m g x bs)(hE:nK cs ds sz m g y bs)
  (hK:∀z∈y.kids,iO y.op=true→nK cs ds sz m g z bs) (hl:∀v,aj g x bs=.ok v→v.kids.length≤256):nK cs ds sz m g (.mk op nm k u [x,y]) bs:=by
 refine lT ?_;have e:aj g (.mk op nm k u [x,y]) bs=(aj g x bs).thn (X9 op (nu g y) bs):=by
  rw[bG];rcases ho with rfl|rfl|rfl<;>rfl
 rw[e];have main:=fun a (ha:aj g x bs=.ok a)=>aGw (cs:=cs) (ds:=ds) (m:=m) hg ho hs hy hE hK a (sound hg x sc _ bs a hx hs ha) (hl a ha);rcases ho with rfl|rfl|rfl
 ·exact dV.mono (f:=fun n=>(aM n cs ds sz m bs.reverse x).bind (PZ.el (fun x7=>_) (fun e8 z8=>some (.er e8 z8)))) (fun v h=>h) (dV.bind (K:=vb bs.reverse) hX main)
 ·exact dV.mono (f:=fun n=>(aM n cs ds sz m bs.reverse x).bind (PZ.el (fun x7=>_) (fun e8 z8=>some (.er e8 z8)))) (fun v h=>h) (dV.bind (K:=vb bs.reverse) hX main)
 ·exact dV.mono (f:=fun n=>(aM n cs ds sz m bs.reverse x).bind (PZ.el (fun x7=>_) (fun e8 z8=>some (.er e8 z8)))) (fun v h=>h) (dV.bind (K:=vb bs.reverse) hX main)
end
theorem avi{env:Env}{sz:List Int}{t:Ty}{v:Val}(h:hasB env sz t v=true):v.kids.length≤256:=by
 obtain⟨k,nm,ks⟩:=t;rw[hasB]at h;unfold acs abw OD at h
 grind
theorem aek{env:Env}{cs:List Carrier}{ds:List Decl}{sz:List Int}{m:List (Str×Val)}{g:Str→Val}(hg:Xp env sz g)(hk:LkE env cs ds sz m g)(t:Tm):
  (∀d sc ty bs,Wf d t→HT env sc t ty→Scp env sz sc bs→(bs.length:Int)<d→nK cs ds sz m g t bs)∧∀z∈t.kids,∀d sc ty bs,Wf d z→HT env sc z ty→Scp env sz sc bs→(bs.length:Int)<d→nK cs ds sz m g z bs:=by
 induction t using Tm.ind with
 |h op nm k u ks ih=>
 refine⟨?_,fun z hz=>(ih z hz).1⟩;intro d sc ty bs hw ht hs hb;obtain⟨hnode,hd,hkl,hkw⟩:=hw.node;have hbl:bs.length≤1000:=by omega
 have S:∀{e:Ty} {w:Val},hasB env sz (au e) w=true→dO w.kids∧∀x∈w.kids,hasB env sz e x=true:=fun hw=>by
  obtain⟨l,rfl,h1,h2⟩:=iV.1 hw;exact⟨h1,h2⟩
 have R:∀{a b:Ty} {w:Val},hasB env sz (au (aR a b)) w=true→fI w.kids:=fun hw p hp=>by
  obtain⟨x,y,rfl,_,_⟩:=qJ.1 ((S hw).2 p hp);exact⟨x,y,rfl⟩
 have I:∀{w:Val},hasB env sz fE w=true→EU w.n:=fun hw=>by
  obtain⟨n,rfl,h⟩:=sG.1 hw;exact h
 have D:=fun x (hx:x∈ks) ty (h:HT env sc x ty)=>(ih x hx).1 (d+1) sc ty bs (hkw x hx) h hs (by omega);have V:∀{x:Tm} {ty:Ty} {v:Val},HT env sc x ty→aj g x bs=.ok v→hasB env sz ty v=true:=fun h e=>sound hg _ sc _ bs _ h hs e;have z0:dO v0.kids:=⟨.nil,by simp[v0,Val.kids]⟩;have sA:∀{op:Int} {a b:Val},31≤op→dO a.kids→dO b.kids→((35≤op∧op≤36∨39≤op∧op≤40∨50≤op∧op≤54)→fI a.kids)→(35≤op∧op≤38→fI b.kids)→SetsOk op a b:=fun h31 h1 h2 h3 h4=>⟨fun h=>by omega,fun _=>⟨h1,h2⟩,h3,h4⟩;have bn:∀{op:Int} {x y:Tm} {e t:Ty},bY op=true→ks=[x,y]→HT env sc x (au e)→HT env (⟨nm,e⟩::sc) y t→dV (vb bs.reverse) (fun n=>dJ n cs ds sz m bs.reverse (.mk op nm k u [x,y])) bs.reverse (aj g (.mk op nm k u [x,y]) bs):=fun hbd hks hx hy=>by
  subst hks;refine aAp hbd (D _ (by simp) _ hx) hbl (fun v hv=>(S (V hx hv)).1.2) fun v hv a ha=>?_;exact(ih _ (by simp)).1 (d+1) _ _ _ (hkw _ (by simp)) hy (.cons ((S (V hx hv)).2 a ha) hs) (by simp;omega)
 have K:∀{y:Tm} {t:Ty},y∈ks→HT env sc y (au t)→∀z∈y.kids,iO y.op=true→nK cs ds sz m g z bs:=fun{y t} hym hy z hz hsy=>by
  have hwy:=(hkw y hym);have hi:=fun hT=>(ih y hym).2 z hz (d+1+1) sc hT bs;cases hy with
  |fam q hq hz1 hw1=>
   have hz:z∈[_,_]:=hz;have hwz:=hwy.node.2.2.2 z hz;rcases qAh.1 hz with rfl|hz'
   ·exact hi _ hwz hz1 hs (by omega)
   ·have hz':=qAK.1 hz';subst hz';exact hi _ hwz hw1 hs (by omega)
  |pow hz1=>
   have hz:z∈[_]:=hz;have hwz:=hwy.node.2.2.2 z hz;have hz':=qAK.1 hz;subst hz';exact hi _ hwz hz1 hs (by omega)
  |bin q hq=>rcases hq with rfl|rfl|rfl<;>cases hsy
  |dres q hq=>rcases hq with rfl|rfl<;>cases hsy
  |rres q hq=>rcases hq with rfl|rfl<;>cases hsy
  |_=>cases hsy
 cases ht with
 |lit op ho=>
  refine lT ?_;rcases ho with rfl|rfl
  ·exact Ev.of fun _=>rfl
  ·exact Ev.of fun _=>rfl
 |int h=>
  refine lT ?_;exact dV.pure (r:=gM k) (M5 k) (Er.int k)
 |name hl=>
  refine lT ?_;exact dV.pure (azl hk hs hl) (Er.ok _)
 |empty h=>
  refine lT ?_;exact Ev.of fun _=>rfl
 |not hx=>exact app1 rfl (D _ (by simp) _ hx) fun a ha=>iE (by omega) (by omega) (by omega) (by omega) (by omega) (by omega) (by omega)
 |log op ho hx hy=>
  rename_i x y;rcases ho with rfl|rfl|rfl|rfl
  ·exact lT (dV.same (ahl (by omega) (D _ (by simp) _ hx) (D _ (by simp) _ hy)))
  ·exact lT (dV.same (ahl (by omega) (D _ (by simp) _ hx) (D _ (by simp) _ hy)))
  ·exact lT (dV.same (ahl (by omega) (D _ (by simp) _ hx) (D _ (by simp) _ hy)))
  ·exact Fq rfl (D _ (by simp) _ hx) (D _ (by simp) _ hy) fun a b ha hb=>iE (by omega) (by omega) (by omega) (by omega) (by omega) (by omega) (by omega)
 |qu op ho hx hy=>
  rename_i x y e;rcases ho with rfl|rfl
  ·exact lT (dV.same (bn rfl rfl hx hy))
  ·exact lT (dV.same (bn rfl rfl hx hy))
 |compr hx hy=>exact lT (dV.same (bn rfl rfl hx hy))
 |fn hgt hx hy=>exact lT (dV.same (bn rfl rfl hx hy))
 |eq op ho hgt hx hy=>
  rcases ho with rfl|rfl
  ·exact Fq rfl (D _ (by simp) _ hx) (D _ (by simp) _ hy) fun a b ha hb=>iE (by omega) (by omega) (by omega) (by omega) (by omega) (by omega) (by omega)
  ·exact Fq rfl (D _ (by simp) _ hx) (D _ (by simp) _ hy) fun a b ha hb=>iE (by omega) (by omega) (by omega) (by omega) (by omega) (by omega) (by omega)
 |ord op ho hx hy=>
  have h1:xw op=true:=by rcases ho with rfl|rfl|rfl|rfl<;>rfl
  exact Fq h1 (D _ (by simp) _ hx) (D _ (by simp) _ hy) fun a b ha hb=>iE (by omega) (by omega) (by omega) (by omega) (by omega) (by omega) (by omega)
 |inn op ho hx hy=>
  rename_i x y t;have h18:(op==18)=false:=by rcases ho with rfl|rfl<;>rfl
  exact arW hg (by omega) hs (by rw[h18];exact hx) hy (D _ (by simp) _ hx) (D _ (by simp) _ hy) (K (by simp) hy) fun v hv=>avi (V hx hv)
 |sub hx hy=>exact arW hg (.inr (.inr rfl)) hs hx hy (D _ (by simp) _ hx) (D _ (by simp) _ hy) (K (by simp) hy) fun v hv=>avi (V hx hv)
 |neg hx=>exact app1 rfl (D _ (by simp) _ hx) fun a ha=>iE (by omega) (fun _=>⟨I (V hx ha),by constructor<;>simp[v0,Val.n]⟩) (by omega) (by omega) (by omega) (by omega) (by omega)
 |num op ho hx hy=>
  have h1:xw op=true:=by rcases ho with rfl|rfl|rfl|rfl|rfl<;>rfl
  exact Fq h1 (D _ (by simp) _ hx) (D _ (by simp) _ hy) fun a b ha hb=>iE (by omega) (fun _=>⟨I (V hx ha),I (V hy hb)⟩) (by omega) (by omega) (by omega) (by omega) (by omega)
 |pair h1 h2 hx hy=>exact Fq rfl (D _ (by simp) _ hx) (D _ (by simp) _ hy) fun a b ha hb=>iE (by omega) (by omega) (by omega) (by omega) (by omega) (by omega) (by omega)
 |set hgt hn hx=>
  refine lT ?_;have e:aj g (.mk 28 nm k u ks) bs=(aN (ks.map fun t=>aj g t bs)).thn bF:=by
   rw[bG];show(aN ((ks.map (nu g)).map fun k=>k.f bs)).thn bF=_;rw[qBh];rfl
  rw[e];exact aAd (fun x hx'=>D x hx' _ (hx x hx')) (by omega)
 |range hx hy=>exact Fq rfl (D _ (by simp) _ hx) (D _ (by simp) _ hy) fun a b ha hb=>iE (by omega) (by omega) (by omega) (by omega) (by omega) (by omega) fun _=>⟨fun _=>⟨I (V hx ha),I (V hy hb)⟩,fun h=>absurd rfl h,by omega,by omega⟩
 |bin op ho hx hy=>
  have h1:xw op=true:=by rcases ho with rfl|rfl|rfl<;>rfl
  exact Fq h1 (D _ (by simp) _ hx) (D _ (by simp) _ hy) fun a b ha hb=>iE (by omega) (by omega) (by omega) (by omega) (by omega) (by omega) fun _=>sA (by omega) (S (V hx ha)).1 (S (V hy hb)).1 (by omega) (by omega)
 |prod hx hy=>exact Fq rfl (D _ (by simp) _ hx) (D _ (by simp) _ hy) fun a b ha hb=>iE (by omega) (by omega) (by omega) (by omega) (by omega) (by omega) fun _=>sA (by omega) (S (V hx ha)).1 (S (V hy hb)).1 (by omega) (by omega)
 |over hx hy=>exact Fq rfl (D _ (by simp) _ hx) (D _ (by simp) _ hy) fun a b ha hb=>iE (by omega) (by omega) (by omega) (by omega) (by omega) (by omega) fun _=>sA (by omega) (S (V hx ha)).1 (S (V hy hb)).1 (fun _=>R (V hx ha)) (fun _=>R (V hy hb))
 |comp hx hy=>exact Fq rfl (D _ (by simp) _ hx) (D _ (by simp) _ hy) fun a b ha hb=>iE (by omega) (by omega) (by omega) (by omega) (by omega) (by omega) fun _=>sA (by omega) (S (V hx ha)).1 (S (V hy hb)).1 (fun _=>R (V hx ha)) (fun _=>R (V hy hb))
 |dres op ho hx hy=>
  have h1:xw op=true:=by rcases ho with rfl|rfl<;>rfl
  exact Fq h1 (D _ (by simp) _ hx) (D _ (by simp) _ hy) fun a b ha hb=>iE (by omega) (by omega) (by omega) (by omega) (by omega) (by omega) fun _=>sA (by omega) (S (V hx ha)).1 (S (V hy hb)).1 (by omega) (fun _=>R (V hy hb))
 |rres op ho hx hy=>
  have h1:xw op=true:=by rcases ho with rfl|rfl<;>rfl
  exact Fq h1 (D _ (by simp) _ hx) (D _ (by simp) _ hy) fun a b ha hb=>iE (by omega) (by omega) (by omega) (by omega) (by omega) (by omega) fun _=>sA (by omega) (S (V hx ha)).1 (S (V hy hb)).1 (fun _=>R (V hx ha)) (by omega)
 |fam op ho hx hy=>
  have h1:xw op=true:=by rcases ho with rfl|rfl|rfl|rfl|rfl<;>rfl
  exact Fq h1 (D _ (by simp) _ hx) (D _ (by simp) _ hy) fun a b ha hb=>iE (by omega) (by omega) (by omega) (by omega) (by omega) (by omega) fun _=>sA (by omega) (S (V hx ha)).1 (S (V hy hb)).1 (by omega) (by omega)
 |pow hx=>exact app1 rfl (D _ (by simp) _ hx) fun a ha=>iE (by omega) (by omega) (by omega) (by omega) (by omega) (by omega) fun _=>sA (by omega) (S (V hx ha)).1 z0 (by omega) (by omega)
 |card hx=>exact app1 rfl (D _ (by simp) _ hx) fun a ha=>iE (by omega) (by omega) (fun _=>(S (V hx ha)).1) (by omega) (by omega) (by omega) (by omega)
 |ext op ho hx=>
  have h1:xw op=true:=by rcases ho with rfl|rfl<;>rfl
  exact app1 h1 (D _ (by simp) _ hx) fun a ha=>iE (by omega) (by omega) (fun _=>(S (V hx ha)).1) (by omega) (by omega) (by omega) (by omega)
 |dom hx=>exact app1 rfl (D _ (by simp) _ hx) fun a ha=>iE (by omega) (by omega) (by omega) (by omega) (by omega) (by omega) fun _=>sA (by omega) (S (V hx ha)).1 z0 (fun _=>R (V hx ha)) (by omega)
 |ran hx=>exact app1 rfl (D _ (by simp) _ hx) fun a ha=>iE (by omega) (by omega) (by omega) (by omega) (by omega) (by omega) fun _=>sA (by omega) (S (V hx ha)).1 z0 (fun _=>R (V hx ha)) (by omega)
 |inv hx=>exact app1 rfl (D _ (by simp) _ hx) fun a ha=>iE (by omega) (by omega) (by omega) (by omega) (by omega) (by omega) fun _=>sA (by omega) (S (V hx ha)).1 z0 (fun _=>R (V hx ha)) (by omega)
 |image hx hy=>exact Fq rfl (D _ (by simp) _ hx) (D _ (by simp) _ hy) fun a b ha hb=>iE (by omega) (by omega) (by omega) (by omega) (by omega) (by omega) fun _=>sA (by omega) (S (V hx ha)).1 (S (V hy hb)).1 (fun _=>R (V hx ha)) (by omega)
 |app hx hy=>exact Fq rfl (D _ (by simp) _ hx) (D _ (by simp) _ hy) fun a b ha hb=>iE (by omega) (by omega) (fun _=>(S (V hx ha)).1) (fun _=>R (V hx ha)) (by omega) (by omega) (by omega)
end
section
open Go
theorem afR{env:Env}(h:aW env=true):∀d∈env.names,bA d.ty=true∧(dX d.ty).all (dP env)=true:=by
 intro d hd;simp only[aW,qAa]at h;have:=qAP.1 h.2.2.1 d hd;simp only[EF,qAa]at this;exact⟨this.2.1.1,this.2.2⟩
def gW(w:S_api_World):Bool:=(aW w.env&&(uj w.env w.sizes&&!((w.values.length:Int)!=(w.env.names.length:Int))))&&!((w.env.names.zip w.values).any fun q=>!(hasB w.env w.sizes q.1.ty q.2))
theorem Zw(w:S_api_World)(hs:∀d∈w.env.names,d.name.length≤9223372036854775807):Ev (fun n=>wP n w) (gW w):=by
 unfold wP gW;refine Ev.bind (a:=!(aW w.env&&(uj w.env w.sizes&&!((w.values.length:Int)!=(w.env.names.length:Int))))) ?_ ?_
 ·refine Ev.bind (C8 w.env hs) ?_;cases aW w.env with
  |false=>exact Ev.ret _
  |true=>
   refine Ev.bind (af4 w.env w.sizes) ?_;cases uj w.env w.sizes with
   |false=>exact Ev.ret _
   |true=>
    simp only[qAv,cond_false,qAu,qCk];exact Ev.ret _
 ·cases hb:(aW w.env&&(uj w.env w.sizes&&!((w.values.length:Int)!=(w.env.names.length:Int))))with
  |false=>exact Ev.ret _
  |true=>
   simp only[qAa,qAV,bne_eq_false_iff_eq]at hb;obtain⟨h1,h2,h3⟩:=hb;simp only[qAv,cond_false,qAu];have hd:=afR h1;refine Ev.bind (acZ w.env.names w.values (by omega) (fun n k i=>NG n w k i) (fun n d v=>(kN n w.env w.sizes v d.ty).bind fun b=>some (!b)) (fun d v=>!(hasB w.env w.sizes d.ty v)) false (fun n k i=>by
    show cond _ _ _=_;simp only[qAW,qAb];rfl) (fun d hm v=>Ev.bind (ayM w.env w.sizes (Dk h2) (PY (hd d hm).1) (hd d hm).2 v) (Ev.ret _))) ?_
   cases((w.env.names.zip w.values).any fun q=>!(hasB w.env w.sizes q.1.ty q.2))<;>exact Ev.ret _
end
section
open Go
def elems(name:Str)(k:Nat):List Val:=(List.range k).map fun(i:Nat)=>Val.mk 3 (i:Int) name []
def yM:List Carrier→List Int→Str→Option Val
 |c::cs,z::zs,s=>cond (c.name==s) (some (mkSet (elems c.name z.toNat))) (cond (decide (0≤dR (fun e=>s==e) 0 c.elems)) (some (.mk 3 (dR (fun e=>s==e) 0 c.elems) c.name [])) (yM cs zs s))
 |_,_,_=>none
def vG(w:S_api_World):List (Str×Val):=gI ((w.env.names.zip w.values).map fun q=>(q.1.name,q.2)) []
def aI(w:S_api_World)(s:Str):Val:=match dn (vG w) s with
 |some v=>v
 |none=>(yM w.env.carriers w.sizes s).getD v0
theorem mR{w:S_api_World}(h:gW w=true):aW w.env=true∧uj w.env w.sizes=true∧w.values.length=w.env.names.length∧∀q∈w.env.names.zip w.values,hasB w.env w.sizes q.1.ty q.2=true:=by
 unfold gW at h
 grind
theorem aFM(nm:Str)(z:Int)(h0:0≤z)(h8:z≤8):Ev (fun n=>MH n nm z) (elems nm z.toNat):=by
 have hz:(((List.range z.toNat).length:Nat):Int)=z:=by rw[List.length_range];omega
 have h:=mG (ρ:=List Val) (List.range z.toNat) (fun n=>BX n nm z) (fun i s=>(s,i)) (fun i=>[Val.mk 3 (i:Int) nm []]) 1000 (by omega) (fun n rec s=>by
  unfold BX;rw[hz,decide_eq_false (Int.lt_irrefl _)];rfl) (fun pre x suf s e hb=>⟨0,fun n hn rec=>by
  have hx:x=pre.length:=by
   have h1:=congrArg (fun l=>l[pre.length]?) e
   grind
  have hl:pre.length<z.toNat:=by
   grind
  unfold BX;rw[decide_eq_true (by simp;omega),hx];rw[dQ (by simpa using hb)];rfl⟩) (s0:=[]) (by rw[flatMap_one];simp;omega)
 rw[flatMap_one]at h;exact Ev.bind h (Ev.ret _)
theorem aAs(es:List Str)(s:Str):Ev (fun n=>Y1 n es s) (dR (fun e=>s==e) 0 es):=by
 exact vo es (fun n k i=>ae8 n es s k i) (fun _ x=>some (s==x)) (fun e=>s==e) (fun n k i=>rfl) (fun x _=>Ev.ret _)
theorem aea:∀(pre:List Carrier) (ps:List Int) (c:Carrier) (suf:List Carrier) (z:Int) (zs:List Int),pre.length=ps.length→J4 (pre++c::suf) (ps++z::zs)=true→abf c z=false
 |[],[],c,suf,z,zs,_,h=>by
  simp only[qAo,J4,qAa,qAV]at h;exact h.1
 |[],p::ps,_,_,_,_,hl,_=>by simp at hl
 |a::pre,[],_,_,_,_,hl,_=>by simp at hl
 |a::pre,p::ps,c,suf,z,zs,hl,h=>by
  simp only[qAM,J4,qAa]at h;exact aea pre ps c suf z zs (by simpa using hl) h.2
theorem adi{c:Carrier}{z:Int}(h:abf c z=false):1≤z∧z≤8∧((c.elems.length:Int)=0∨z=c.elems.length):=by
 unfold abf at h
 grind
theorem awM{env:Env}{sz:List Int}(h:uj env sz=true):J4 env.carriers sz=true:=by
 unfold uj at h
 grind
theorem anH(env:Env)(sz:List Int)(hf:uj env sz=true)(s:Str):∀(suf:List Carrier) (zs:List Int) (pre:List Carrier) (ps:List Int),env.carriers=pre++suf→sz=ps++zs→pre.length=ps.length→suf.length=zs.length→
  ∃N,∀n,N≤n→∀k,suf.length+1≤k→YV n env.carriers sz s k (pre.length:Int)=some (match yM suf zs s with|some v=>.rt (.ok v)|none=>.nx ())
 |[],[],pre,ps,he,_,_,_=>by
  refine⟨0,fun n _ k hk=>?_⟩;obtain⟨j,rfl⟩:∃j,k=j+1:=⟨k - 1,by omega⟩;show FN n env.carriers sz s _ _=_;unfold FN;rw[decide_eq_false (by rw[he];simp)];rfl
 |[],z::zs,_,_,_,_,_,h=>by simp at h
 |c::suf,[],_,_,_,_,_,h=>by simp at h
 |c::suf,z::zs,pre,ps,he,hz,hp,hl=>by
  have hfit:=awM hf;rw[he,hz]at hfit;obtain⟨z1,z2,_⟩:=adi (aea pre ps c suf z zs hp hfit);obtain⟨N1,h1⟩:=aFM c.name z (by omega) z2;obtain⟨N2,h2⟩:=aAs c.elems s;obtain⟨N3,h3⟩:=anH env sz hf s suf zs (pre++[c]) (ps++[z]) (by simp[he]) (by simp[hz]) (by simp[hp]) (by simpa using hl);refine⟨N1+N2+N3,fun n hn k hk=>?_⟩;obtain⟨j,rfl⟩:∃j,k=j+1:=⟨k - 1,by omega⟩;have h1:MH n c.name z=_:=h1 n (by omega);have h2:Y1 n c.elems s=_:=h2 n (by omega);have h3:=h3 n (by omega) j (by simp at hk;omega);have hi:=(bg hz).2;rw[←hp]at hi;show FN n env.carriers sz s (YV n env.carriers sz s j) _=_;unfold FN yM;rw[(bg he).1];simp only[cond_true,(bg he).2,qAb,hi,h1,h2];cases c.name==s
  ·cases decide (0≤dR (fun e=>s==e) 0 c.elems)
   ·rw[show(pre.length:Int)+1=((pre++[c]).length:Int) by simp];exact h3
   ·rfl
  ·rfl
theorem apK(env:Env)(sz:List Int)(hf:uj env sz=true)(hn:(env.carriers.map (·.name)).Nodup)(s:Str):∀(suf:List Carrier) (zs:List Int) (pre:List Carrier) (ps:List Int),env.carriers=pre++suf→sz=ps++zs→pre.length=ps.length→suf.length=zs.length→
  (match yM suf zs s with|some v=>∃t,(s,t)∈suf.flatMap kR∧hasB env sz t v=true|none=>∀t,(s,t)∉suf.flatMap kR)
 |[],[],pre,ps,he,_,_,_=>by simp[yM]
 |[],z::zs,_,_,_,_,_,h=>by simp at h
 |c::suf,[],_,_,_,_,_,h=>by simp at h
 |c::suf,z::zs,pre,ps,he,hz,hp,hl=>by
  have hfit:=awM hf;rw[he,hz]at hfit;obtain⟨z1,z2,z3⟩:=adi (aea pre ps c suf z zs hp hfit);have ih:=apK env sz hf hn s suf zs (pre++[c]) (ps++[z]) (by simp[he]) (by simp[hz]) (by simp[hp]) (by simpa using hl);have hsz:He env sz c.name=z:=by
   have key:∀(q:List Carrier) (i:Int),(∀d∈q,d.name≠c.name)→dR (fun d:Carrier=>d.name==c.name) i (q++c::suf)=i+q.length:=by
    intro q
    induction q with
    |nil=>intro i _;simp[dR]
    |cons d q ihq=>
     intro i h;have h1:(d.name==c.name)=false:=by simpa using h d (by simp)
     rw[qAM,dR,h1,cond_false,ihq _ fun e he=>h e (by simp[he])];simp;omega
   unfold He;rw[he,key pre 0 (fun d hd hdc=>by
    rw[he,qBj,qDe]at hn;exact hn.2.2 d.name (qAJ.2 ⟨d,hd,rfl⟩) c.name (by simp) hdc),Int.zero_add]
   have hi:=(bg hz).2;rw[←hp]at hi;rw[hi];rfl
  have hel:∀i:Int,0≤i→i<z→hasB env sz (nD c.name) (.mk 3 i c.name [])=true:=fun i h1 h2=>by
   rw[show hasB env sz (nD c.name) (.mk 3 i c.name [])=OD env sz c.name (.mk 3 i c.name []) by unfold nD hasB;rfl];unfold OD;simp[Val.kind,Val.name,Val.kids,Val.n,hsz,h1,h2]
  unfold yM;cases hc:(c.name==s)with
  |true=>
   have hc:=eq_of_beq hc;subst hc;refine⟨au (nD c.name),by simp[kR],iV.2 ⟨_,rfl,⟨?_,?_⟩,fun x hx=>?_⟩⟩
   ·unfold elems;rw[List.pairwise_map];refine List.Pairwise.imp (fun{a b} hab=>?_) qDv;show bQ _ _<0;rw[zw,zy,zy];exact .inr ⟨(pF 3 3).2 rfl,.inl ((ad7 _ _).2 (by omega))⟩
   ·unfold elems;simp;omega
   ·unfold elems at hx;obtain⟨i,hi,rfl⟩:=qAJ.1 hx;rw[qBW]at hi;exact hel i (by omega) (by omega)
  |false=>
   have hge:=mO (fun e=>s==e) c.elems 0 (qBD _);simp only[cond_false];cases hd:decide (0≤dR (fun e=>s==e) 0 c.elems)with
   |true=>
    simp only[cond_true];rw[hd]at hge;obtain⟨e,he',hse⟩:=qCB.1 hge.symm;have hse:s=e:=eq_of_beq hse;refine⟨nD c.name,?_,hel _ (of_decide_eq_true hd) ?_⟩
    ·rw[qBf,qAr];exact .inl (qAk _ (qAJ.2 ⟨e,he',by rw[hse]⟩))
    ·rcases Dw (fun e=>s==e) c.elems []with⟨x,_,_,g1,g2⟩|⟨_,g⟩
     ·simp only[qAA,qAo]at g1 g2;rw[show(((0:Nat):Int))=0 from rfl]at g1 g2;unfold idx at g2;rw[if_pos g1]at g2;have hlt:=(qAH.1 g2).1;rcases z3 with h|h<;>omega
     ·simp only[qAA]at g;rw[show(((0:Nat):Int))=0 from rfl]at g;have:=of_decide_eq_true hd;omega
   |false=>
    simp only[cond_false];rw[hd]at hge;have hno:∀t,(s,t)∉kR c:=fun t ht=>by
     unfold kR at ht;rcases qAh.1 ht with ht|ht
     ·cases ht;simp at hc
     ·obtain⟨e,he',hee⟩:=qAJ.1 ht;cases hee;have:=List.any_eq_false.1 hge.symm s he';simp at this
    cases hv:yM suf zs s with
    |some v=>
     rw[hv]at ih;obtain⟨t,h1,h2⟩:=ih;exact⟨t,by rw[qBf,qAr];exact .inr h1,h2⟩
    |none=>
     rw[hv]at ih;intro t ht;rw[qBf,qAr]at ht;exact ht.elim (hno t) (ih t)
theorem aA3(ds:List Decl)(vs:List Val)(h:vs.length=ds.length):((ds.zip vs).map fun q=>(q.1.name,q.2)).map (·.1)=ds.map (·.name):=by
 induction ds generalizing vs with
 |nil=>simp
 |cons d ds ih=>
  cases vs with
  |nil=>simp at h
  |cons v vs=>
   simp_all
theorem J8{w:S_api_World}(h:gW w=true)(s:Str):dn (vG w) s=dn ((w.env.names.zip w.values).map fun q=>(q.1.name,q.2)) s∧(((w.env.names.zip w.values).map fun q=>(q.1.name,q.2)).map (·.1)).Nodup:=by
 obtain⟨h1,h2,h3,h4⟩:=mR h;have hn:(((w.env.names.zip w.values).map fun q=>(q.1.name,q.2)).map (·.1)).Nodup:=by
  rw[aA3 _ _ h3];have:=(iJ h1).2.2.2.2;unfold names2 at this
  grind
 unfold vG;rw[QV _ _ _ hn,Oe]
 grind
theorem anT{env:Env}(h:aW env=true):(env.carriers.map (·.name)).Nodup:=by
 have:=(iJ h).2.2.2.2;unfold names2 at this
 grind
theorem PS{w:S_api_World}(h:gW w=true)(s:Str)(t:Ty)(ht:look w.env s=some t):(∃v,dn (vG w) s=some v∧aI w s=v∧hasB w.env w.sizes t v=true)∨(∃v,dn (vG w) s=none∧yM w.env.carriers w.sizes s=some v∧aI w s=v∧hasB w.env w.sizes t v=true):=by
 obtain⟨h1,h2,h3,h4⟩:=mR h;obtain⟨hf,hn⟩:=J8 h s;have un:∀t',(s,t')∈wK w.env→t'=t:=fun t' h'=>by
  have:=(Ae h1).2 h'
  grind
 unfold aI;cases hm:dn (vG w) s with
 |some v=>
  refine .inl ⟨v,rfl,rfl,?_⟩;rw[hf]at hm;rw[qY _ _ _ hn]at hm;obtain⟨q,hq,hqe⟩:=qAJ.1 hm;cases hqe;have:=un q.1.ty (by unfold wK;rw[qAr];exact .inr (qAJ.2 ⟨q.1,(qCR (show(q.1,q.2)∈w.env.names.zip w.values from hq)).1,rfl⟩))
  grind
 |none=>
  have hc:=apK w.env w.sizes h2 (anT h1) s w.env.carriers w.sizes [] [] rfl rfl rfl (Dk h2).symm;cases hv:yM w.env.carriers w.sizes s with
  |some v=>
   rw[hv]at hc;obtain⟨t',h5,h6⟩:=hc;have:=un t' (by unfold wK;rw[qAr];exact .inl h5)
   grind
  |none=>
   exfalso;rw[hv]at hc;have ht:=(Ae h1).1 ht;unfold wK at ht;rcases qAr.1 ht with ht|ht
   ·exact hc t ht
   ·obtain⟨d,hd,hde⟩:=qAJ.1 ht;cases hde;rw[hf]at hm;obtain⟨i,hi,rfl⟩:=qBy hd;have hz:(w.env.names[i],w.values[i]'(by omega))∈w.env.names.zip w.values:=by
     rw[qBF];exact⟨i,by simp;omega,by simp⟩
    have:=(qY ((w.env.names.zip w.values).map fun q=>(q.1.name,q.2)) w.env.names[i].name (w.values[i]'(by omega)) hn).2 (qAJ.2 ⟨_,hz,rfl⟩);rw[hm]at this;cases this
theorem DZ{w:S_api_World}(h:gW w=true):Xp w.env w.sizes (aI w):=fun s t ht=>by
 rcases PS h s t ht with⟨v,_,e,h1⟩|⟨v,_,_,e,h1⟩<;>rw[e]<;>exact h1
theorem aej{w:S_api_World}(h:gW w=true):LkE w.env w.env.carriers w.env.names w.sizes (vG w) (aI w):=fun s t ht b=>by
 obtain⟨h1,h2,_⟩:=mR h;unfold adY;rcases PS h s t ht with⟨v,e1,e2,_⟩|⟨v,e1,e2,e3,_⟩
 ·refine Ev.of fun n=>?_;rw[e1,e2];simp only[qAb,cond_true,alv]
 ·obtain⟨N,hN⟩:=anH w.env w.sizes h2 s w.env.carriers w.sizes [] [] rfl rfl rfl (Dk h2).symm;refine⟨N+w.env.carriers.length+1,fun n hn=>?_⟩
  grind
theorem anK{w:S_api_World}(h:gW w=true):Ev (fun n=>Mt n w) (w.env.carriers,w.env.names,w.sizes,vG w,[]):=by
 obtain⟨h1,h2,h3,h4⟩:=mR h;have hn64:=(iJ h1).2.1;have hl:(w.env.names.zip w.values).length=w.env.names.length:=by rw[qDt];omega
 have e:=wI (ρ:=(List Carrier)×(List Decl)×(List Int)×(List (Str×Val))×(List Bound)) (w.env.names.zip w.values) (fun n=>Cx n w) (fun i s=>(i,s)) (fun q s=>.nx (lJ s q.1.name q.2)) (fun s=>s) (fun suf s=>s.length+suf.length≤1000) (fun n rec s=>by
  unfold Cx;rw[hl,at_end];rfl) (fun pre q suf s e hI=>⟨⟨0,fun n hn rec=>by
  have hpl:pre.length<w.env.names.length:=by rw[←hl,e];simp
  have hg:=congrArg (fun l=>l[pre.length]?) e;simp at hg;rw[qAc (by omega),List.getElem_zip]at hg;have hg:=Option.some.inj hg;unfold Cx;rw[decide_eq_true (by simp;omega)];have i1:idx w.env.names (pre.length:Int)=some q.1:=by
   unfold idx
   grind
  have i2:idx w.values (pre.length:Int)=some q.2:=by
   unfold idx
   grind
  simp only[i1,i2,qAb];rw[LX (by omega)];rfl⟩,fun s' hs'=>by
   cases hs';have:=Dh s q.1.name q.2;simp at hI;omega⟩) (s0:=[]) (by simp;omega)
 rw[Jg (ρ:=(List Carrier)×(List Decl)×(List Int)×(List (Str×Val))×(List Bound)) (fun(s:List (Str×Val)) (q:Decl×Val)=>lJ s q.1.name q.2)]at e;have e2:(w.env.names.zip w.values).foldl (fun(s:List (Str×Val)) (q:Decl×Val)=>lJ s q.1.name q.2) []=vG w:=by
  unfold vG gI;rw[List.foldl_map]
 rw[e2]at e;exact Ev.bind e (Ev.ret _)
end
section
open Go
theorem acn{env:Env}{sz:List Int}{t:Ty}(h:Good t):∀v,hasB env sz t v=true→pY v:=by
 have leaf:∀v:Val,v.kids=[]→pY v:=fun v e=>by
  obtain⟨k,n,s,ks⟩:=v;subst e;simp[pY,F5]
 have all:∀l:List Val,(∀v∈l,pY v)→F5 l:=by
  intro l
  induction l with
  |nil=>intro _;simp[F5]
  |cons a l ih=>intro h;exact⟨h a (by simp),ih fun v hv=>h v (by simp[hv])⟩
 induction h with
 |int=>intro v h;obtain⟨n,rfl,_⟩:=sG.1 h;exact leaf _ rfl
 |car nm=>
  intro v h;rw[show hasB env sz (nD nm) v=OD env sz nm v by unfold nD hasB;rfl]at h;unfold OD at h
  simp_all
 |pair ha hb iha ihb=>
  intro v h;obtain⟨x,y,rfl,h1,h2⟩:=qJ.1 h;exact⟨by simp,all _ (by simp only[qAh,qCm,or_false];rintro v (rfl|rfl);exact iha _ h1;exact ihb _ h2)⟩
 |set ha ih=>
  intro v h;obtain⟨l,rfl,h1,h2⟩:=iV.1 h;exact⟨by have:=h1.2;omega,all l fun v hv=>ih v (h2 v hv)⟩
theorem Sb{env:Env}{sz:List Int}{t:Ty}(h:Top t)(v:Val)(hv:hasB env sz t v=true):pY v:=by
 rcases h with rfl|h
 ·obtain⟨b,rfl⟩:=Aa.1 hv;cases b<;>simp[aO,pY,F5]
 ·exact acn h v hv
theorem aAc{cs:List Carrier}{ds:List Decl}{sz:List Int}{m:List (Str×Val)}{g:Str→Val}{t:Tm}(h:nK cs ds sz m g t []):Ev (fun n=>rW n cs ds sz m [] t) (match aj g t []with| .ok v=>(v,0,[])| .er e=>(v0,e,[])):=by
 unfold nK at h;cases hr:aj g t []with
 |ok v=>rw[hr]at h;exact Ev.bind h (Ev.ret _)
 |er e=>
  rw[hr]at h;obtain⟨he,z,hz⟩:=h;refine Ev.bind hz (Ev.of fun n=>?_);have e1:(decide ((0:Int)≤e)&&decide (e≤1000))=true:=by rcases he with rfl|rfl<;>rfl
  simp only[PZ.el,e1];unfold FJ;rfl
def l9(w:S_api_World)(t:Tm):Val×Int:=match aj (aI w) t []with| .ok v=>(v,0)| .er e=>(v0,e)
def ig(w:S_api_World)(t:Tm):Val×Int:=cond (gW w&&cO t) (cond ((bT w.env t).2.2 !=0) (v0,(bT w.env t).2.2) (l9 w t)) (v0,1)
def fZ(w:S_api_World)(t:Tm):Bool×Int:=cond (gW w&&cO t) (cond (l6 w.env t !=0) (false,l6 w.env t) (cond ((l9 w t).2==0) ((l9 w t).1.n==1,(l9 w t).2) (false,(l9 w t).2))) (false,1)
theorem Dt{w:S_api_World}{t:Tm}(hw:gW w=true)(hv:cO t=true)(h:(bT w.env t).2.2=0):∃ty,(bT w.env t).1=ty∧Top ty∧HT w.env [] t ty∧bX w.env [] t=.ok ty:=by
 obtain⟨h1,_⟩:=mR hw;unfold bT at h⊢;rw[h1,hv]at h⊢;cases ht:bX w.env [] t with
 |er e p=>rw[ht]at h;exact absurd h (IG t [] e p ht)
 |ok ty=>exact⟨ty,rfl,sV h1 wR ht,apj h1 t 1 [] ty (sP hv) wR ht,rfl⟩
theorem arq{w:S_api_World}{t:Tm}{ty:Ty}(hw:gW w=true)(hv:cO t=true)(ht:HT w.env [] t ty):nK w.env.carriers w.env.names w.sizes (vG w) (aI w) t []:=
 (aek (DZ hw) (aej hw) t).1 1 [] ty [] (sP hv) ht .nil (by simp)
theorem Qt{w:S_api_World}{t:Tm}{ty:Ty}{v:Val}(hw:gW w=true)(ht:HT w.env [] t ty)(h:aj (aI w) t []=.ok v):hasB w.env w.sizes ty v=true:=sound (DZ hw) t [] ty [] v ht .nil h
theorem H7(w:S_api_World)(t:Tm)(hs:FQ w.env)(hS:iN t):Ev (fun n=>mU n w t) (ig w t):=by
 unfold mU ig;refine Ev.bind (a:=!(gW w&&cO t)) ?_ ?_
 ·refine Ev.bind (Zw w hs) ?_;cases gW w with
  |false=>exact Ev.ret _
  |true=>exact Ev.bind (OB t hS) (Ev.ret _)
 ·cases hq:(gW w&&cO t)with
  |false=>exact Ev.ret _
  |true=>
   rw[qAa]at hq;refine Ev.bind (QD w.env t hs hS) ?_;cases he:((bT w.env t).2.2 !=0)with
   |true=>exact Ev.ret _
   |false=>
    obtain⟨ty,h1,h2,h3,_⟩:=Dt hq.1 hq.2 (by simpa using he);refine Ev.bind (anK hq.1) (Ev.bind (aAc (arq hq.1 hq.2 h3)) ?_);unfold l9;cases hr:aj (aI w) t []with
    |ok v=>exact Ev.bind (adp v (Sb h2 v (Qt hq.1 h3 hr))) (Ev.ret _)
    |er e=>exact Ev.bind (adp v0 (by simp[v0,pY,F5])) (Ev.ret _)
theorem G8(w:S_api_World)(t:Tm)(hs:FQ w.env)(hS:iN t):Ev (fun n=>j4 n w t) (fZ w t):=by
 unfold j4 fZ;refine Ev.bind (a:=!(gW w&&cO t)) ?_ ?_
 ·refine Ev.bind (Zw w hs) ?_;cases gW w with
  |false=>exact Ev.ret _
  |true=>exact Ev.bind (OB t hS) (Ev.ret _)
 ·cases hq:(gW w&&cO t)with
  |false=>exact Ev.ret _
  |true=>
   rw[qAa]at hq;refine Ev.bind (aa4 w.env t hs hS) ?_;cases he:(l6 w.env t !=0)with
   |true=>exact Ev.ret _
   |false=>
    have h0:(bT w.env t).2.2=0:=by
     unfold l6 at he
     grind
    obtain⟨ty,h1,h2,h3,_⟩:=Dt hq.1 hq.2 h0;refine Ev.bind (anK hq.1) ?_;refine Ev.bind (g:=fun(x3:Bool×Int×List Bound) _=>some (x3.1,x3.2.1)) (a:=(cond ((l9 w t).2==0) ((l9 w t).1.n==1,(l9 w t).2,[]) (false,(l9 w t).2,[]))) (Ev.bind (aAc (arq hq.1 hq.2 h3)) (Ev.of fun n=>?_)) (Ev.of fun n=>?_)
    ·unfold l9
     grind
    grind
end
section
open Go
theorem aFr:∀t:Tm,∃c,Ev (fun n=>KT n t) c:=Tm.ind fun op nm k u ks ih=>by
 have hz:∀x:Tm,∃c,x∈ks→Ev (fun n=>KT n x) c:=fun x=>by
  by_cases h:x∈ks
  ·simp_all
  simp_all
 obtain⟨cf,hcf⟩:=qCu hz
 let f:Int→Tm→Int:=fun i x=>cond (bY op&&i==1) (IntKind.wrap .i64 (cf x*64)) (cf x)
 have key:∀(suf pre:List Tm) (s:Int),ks=pre++suf→∃r,∃N,∀n,N≤n→∀j,suf.length+1≤j→Zl n (KT n) (.mk op nm k u ks) j (s,(pre.length:Int))=some r:=by
  intro suf
  induction suf with
  |nil=>
   intro pre s hp;refine⟨.nx s,0,fun n _ j hj=>?_⟩;obtain⟨j,rfl⟩:∃q,j=q+1:=⟨j - 1,by omega⟩;show FL n _ (.mk op nm k u ks) _ _=_;unfold FL;have e:decide ((pre.length:Int)<(ks.length:Int))=false:=decide_eq_false (by rw[hp];simp);show cond (decide ((pre.length:Int)<(ks.length:Int))) _ _=_;rw[e];rfl
  |cons x suf ihs=>
   intro pre s hp;obtain⟨N,hN⟩:=hcf x (by rw[hp];simp);obtain⟨r,M,hM⟩:=ihs (pre++[x]) (IntKind.wrap .i64 (s+f (pre.length:Int) x)) (by simp[hp]);refine⟨cond (decide (20000000<IntKind.wrap .i64 (s+f (pre.length:Int) x))) (.rt 20000001) r,N+M,fun n hn j hj=>?_⟩;obtain⟨j,rfl⟩:∃q,j=q+1:=⟨j - 1,by omega⟩;have hN:KT n x=_:=hN n (by omega);have hM:=hM n (by omega) j (by simp at hj;omega);show FL n _ (.mk op nm k u ks) (Zl n _ (.mk op nm k u ks) j) _=_;unfold FL;show cond (decide ((pre.length:Int)<(ks.length:Int))) (Option.bind (idx ks (pre.length:Int)) _) _=_;rw[(bg hp).1,(bg hp).2];simp only[cond_true,qAb,hN,abj,Tm.op];have e:(((cond (bY op) (some ((pre.length:Int)==1)) (some false)).bind fun(s4:Bool)=>cond s4 (some (IntKind.wrap .i64 (cf x*64))) (some (cf x))):Option Int)=some (f (pre.length:Int) x):=by
    show _=some (cond (bY op&&(pre.length:Int)==1) _ _);cases bY op<;>cases(pre.length:Int)==1<;>rfl
   rw[e];simp only[qAb];cases decide (20000000<IntKind.wrap .i64 (s+f (pre.length:Int) x))with
   |true=>rfl
   |false=>
    simp only[cond_false];rw[show(pre.length:Int)+1=((pre++[x]).length:Int) by simp];exact hM
 obtain⟨r,N,h⟩:=key ks [] 1 rfl;refine⟨match r with| .nx s=>s| .rt s=>s,Ev.succ ⟨N+ks.length+1,fun n hn=>?_⟩⟩;show RL n _ (.mk op nm k u ks)=_;unfold RL
 grind
theorem Dq(t:Tm):∃b,Ev (fun n=>sM n t) b:=by
 obtain⟨c,hc⟩:=aFr t;refine⟨cond (cO t) (decide (c≤20000000)) true,?_⟩;refine Ev.bind (Ev.bind (xS t) ?_) (Ev.ret _);cases cO t with
 |false=>exact Ev.ret _
 |true=>exact Ev.bind hc (Ev.ret _)
theorem Q7(env:Env):∃b,Ev (fun n=>Ah n env) b:=by
 refine⟨decide ((env.carriers.length:Int)≤100)&&decide ((env.names.length:Int)≤100),Ev.of fun n=>?_⟩;unfold Ah
 grind
theorem nL:Ev (fun n=>(jf n).bind fun x=>some x) true:=Ev.bind (a:=true) (Ev.ret _) (Ev.ret _)
theorem zo(a b:Val):eD a b=true↔a=b:=by unfold eD;rw[beq_iff_eq,gF]
abbrev jB(op:Int)(a b:Tm):Tm:=.mk op [] 0 (.mk 0 [] []) [a,b]
end
section
open Go
def U4(op:Int)(r s:VR):VR:=r.thn fun p=>cond (op==4&&!(p.n==1)) (.ok (aO false)) (cond ((op==5&&p.n==1) ||(op==6&&!(p.n==1))) (.ok (aO true)) s)
theorem RF(g:Str→Val){op:Int}(ho:op=4∨op=5∨op=6)(s t:Tm)(bs:List Bound):aj g (jB op s t) bs=U4 op (aj g s bs) (aj g t bs):=by
 rw[bG];rcases ho with rfl|rfl|rfl<;>rfl
end
end Abs
end Go.Proofs.YtneeginmfjageaaGreat

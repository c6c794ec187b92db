/-
  The evaluator comes to the plain value of a term: memberships, operators, all terms. Conditions: the term has a type, names have values of their types; lemmas without a program.
-/
import Derived.Test.YthgdaonechbgmaaGreatCQ2ox16cae1
import Derived.Test.YthgdaonechbgmaaGreatCP53oxc8ab98
set_option linter.all false
namespace Go.Proofs.YthgdaonechbgmaaGreat
namespace Abs
section
open Go
section
variable {cs:List Carrier}{ds:List Decl}{sz:List Int}{m:List (Str×Val)}{g:Str→Val}
abbrev LSt:Type:=Int×Int×Int×Str×List Val×Int×Int×Str×List Val×List Bound
def Lx(cs:List Carrier)(ds:List Decl)(sz:List Int)(m:List (Str×Val))(t:Tm)(n:Nat):=gN n (bJ n) (bK n) (bI n) (dw n) (dJ n) (aM n) (dD n) cs ds sz m t
def LB(cs:List Carrier)(ds:List Decl)(sz:List Int)(m:List (Str×Val))(t:Tm)(n k:Nat):=aL (Lx cs ds sz m t n) k
theorem Qx(t:Tm)(n k:Nat)(s:LSt):LB cs ds sz m t n (k+1) s=Lx cs ds sz m t n (LB cs ds sz m t n k) s:=rfl
abbrev asw(op:Int)(n:Nat):LR (Int×Int×Str×(List Val)×Int×Int×Str×(List Val)×(List Bound)) (PZ (Val×(List Bound)) (List Bound))→Option (PZ (Val×(List Bound)) (List Bound)):=LR.el (fun(s8:Int×Int×Str×(List Val)×Int×Int×Str×(List Val)×(List Bound))=>((oz n op (Val.mk s8.1 s8.2.1 s8.2.2.1 s8.2.2.2.1) (Val.mk s8.2.2.2.2.1 s8.2.2.2.2.2.1 s8.2.2.2.2.2.2.1 s8.2.2.2.2.2.2.2.1)).bind (PZ.el (fun(x34:Val)=>some (.ok (x34,s8.2.2.2.2.2.2.2.2))) (fun(e15:Int) _=>some (.er e15 s8.2.2.2.2.2.2.2.2))))) (fun r=>some r)
theorem alv(v:Val):Val.mk v.kind v.n v.name v.kids=v:=by cases v;rfl
theorem aGd{op:Int}{nm:Str}{k:Int}{u:Ty}{x:Tm}{bs:List Bound}(hop:(op==28)=false)(hx:nK cs ds sz m g x bs)(hA:∀a,aj g x bs=.ok a→Ev (fun n=>oz n op a v0) (pz (CG op a v0))):
  dV (vb bs.reverse) (fun n=>(LB cs ds sz m (.mk op nm k u [x]) n n (0,0,0,([]:Str),([]:List Val),0,0,([]:Str),([]:List Val),bs.reverse)).bind (asw op n)) bs.reverse ((aN [aj g x bs]).thn (bB op)):=by
 unfold nK at hx;cases hr:aj g x bs with
 |er e=>
  rw[hr]at hx;obtain⟨he,z,N,hz⟩:=hx;refine⟨he,z,N+2,fun n hn=>?_⟩;have hz:aM n cs ds sz m bs.reverse x=_:=hz n (by omega);obtain⟨j,rfl⟩:∃j,n=j+2:=⟨n - 2,by omega⟩;dsimp only;rw[Qx];unfold Lx gN;simp only[Tm.kids,show idx [x] 0=some x from rfl,qAb,hz]<;>rfl
 |ok a=>
  rw[hr]at hx;obtain⟨N,h1⟩:=hx;have hA:=hA a hr;have e:(aN [(.ok a:VR)]).thn (bB op)=CG op a v0:=by
   unfold bB;rw[hop];rfl
  rw[e];refine dV.mono (f:=fun n=>(oz n op a v0).bind (PZ.el (fun(x34:Val)=>some (.ok (x34,bs.reverse))) (fun(e15:Int) _=>some (.er e15 bs.reverse)))) (fun v hv=>?_) (dV.pure hA (Er.apply op a v0));obtain⟨M,hM⟩:=hv;refine⟨N+M+2,fun n hn=>?_⟩;rw[←hM n (by omega)];have h1:aM n cs ds sz m bs.reverse x=_:=h1 n (by omega);have hj:n=(n - 2)+1+1:=by omega
  have hl:LB cs ds sz m (.mk op nm k u [x]) n n (0,0,0,([]:Str),([]:List Val),0,0,([]:Str),([]:List Val),bs.reverse)=some (.nx (a.kind,a.n,a.name,a.kids,0,0,[],[],bs.reverse)):=by
   conv=>lhs;arg 7;rw[hj]
   rw[Qx];unfold Lx gN;simp only[Tm.kids,cond_true,show idx [x] 0=some x from rfl,qAb,h1,PZ.el,LR.el,show((0:Int)==0)=true from rfl];rw[show ∀s,LB cs ds sz m (.mk op nm k u [x]) n (n - 2+1) s=Lx cs ds sz m (.mk op nm k u [x]) n (LB cs ds sz m (.mk op nm k u [x]) n (n - 2)) s from fun s=>Qx _ _ _ s];rfl
  simp only[hl,qAb,asw,LR.el,alv];rfl
theorem aGG{op:Int}{nm:Str}{k:Int}{u:Ty}{x y:Tm}{bs:List Bound}(hop:(op==28)=false)(hx:nK cs ds sz m g x bs)(hy:nK cs ds sz m g y bs)(hA:∀a b,aj g x bs=.ok a→aj g y bs=.ok b→Ev (fun n=>oz n op a b) (pz (CG op a b))):
  dV (vb bs.reverse) (fun n=>(LB cs ds sz m (.mk op nm k u [x,y]) n n (0,0,0,([]:Str),([]:List Val),0,0,([]:Str),([]:List Val),bs.reverse)).bind (asw op n)) bs.reverse ((aN [aj g x bs,aj g y bs]).thn (bB op)):=by
 unfold nK at hx hy;have e1:decide ((0:Int)<([x,y].length:Int))=true:=rfl;have e2:decide ((0:Int)+1<([x,y].length:Int))=true:=rfl;have e3:decide ((0:Int)+1+1<([x,y].length:Int))=false:=rfl;cases hr:aj g x bs with
 |er e=>
  rw[hr]at hx;obtain⟨he,z,N,hz⟩:=hx;show dV _ _ _ (RR.er e);refine⟨he,z,N+2,fun n hn=>?_⟩;have hz:aM n cs ds sz m bs.reverse x=_:=hz n (by omega);obtain⟨j,rfl⟩:∃j,n=j+2:=⟨n - 2,by omega⟩;dsimp only;rw[Qx];unfold Lx gN;simp only[Tm.kids,e1,cond_true,show idx [x,y] 0=some x from rfl,qAb,hz,PZ.el,LR.el]<;>rfl
 |ok a=>
  rw[hr]at hx;obtain⟨N,h1⟩:=hx;cases hq:aj g y bs with
  |er e=>
   rw[hq]at hy;obtain⟨he,z,M,hz⟩:=hy;show dV _ _ _ (RR.er e);refine⟨he,z,N+M+3,fun n hn=>?_⟩;have h1:aM n cs ds sz m bs.reverse x=_:=h1 n (by omega);have hz:aM n cs ds sz m bs.reverse y=_:=hz n (by omega);have hj:n=(n - 2)+1+1:=by omega
   dsimp only;rw[show LB cs ds sz m (.mk op nm k u [x,y]) n n (0,0,0,([]:Str),([]:List Val),0,0,([]:Str),([]:List Val),bs.reverse)=some (.rt (.er e (bs.reverse++z))) by
    conv=>lhs;arg 7;rw[hj]
    rw[Qx];unfold Lx gN;simp only[Tm.kids,e1,cond_true,show idx [x,y] 0=some x from rfl,qAb,h1,PZ.el,LR.el,vb,show((0:Int)==0)=true from rfl];rw[show ∀s,LB cs ds sz m (.mk op nm k u [x,y]) n (n - 2+1) s=Lx cs ds sz m (.mk op nm k u [x,y]) n (LB cs ds sz m (.mk op nm k u [x,y]) n (n - 2)) s from fun s=>Qx _ _ _ s];unfold Lx gN;simp only[Tm.kids,e2,cond_true,show idx [x,y] (0+1)=some y from rfl,qAb,hz,PZ.el,LR.el];rfl]
   rfl
  |ok b=>
   rw[hq]at hy;obtain⟨M,h2⟩:=hy;have hA:=hA a b hr hq;have e:(aN [(.ok a:VR),.ok b]).thn (bB op)=CG op a b:=by
    show bB op [a,b]=_;unfold bB;rw[hop];rfl
   rw[e];refine dV.mono (f:=fun n=>(oz n op a b).bind (PZ.el (fun(x34:Val)=>some (.ok (x34,bs.reverse))) (fun(e15:Int) _=>some (.er e15 bs.reverse)))) (fun v hv=>?_) (dV.pure hA (Er.apply op a b));obtain⟨L,hL⟩:=hv;refine⟨N+M+L+3,fun n hn=>?_⟩;rw[←hL n (by omega)];have h1:aM n cs ds sz m bs.reverse x=_:=h1 n (by omega);have h2:aM n cs ds sz m bs.reverse y=_:=h2 n (by omega);have hj:n=(n - 3)+1+1+1:=by omega
   have hs:∀j s,LB cs ds sz m (.mk op nm k u [x,y]) n (j+1) s=Lx cs ds sz m (.mk op nm k u [x,y]) n (LB cs ds sz m (.mk op nm k u [x,y]) n j) s:=fun j s=>Qx _ _ _ s;have hl:LB cs ds sz m (.mk op nm k u [x,y]) n n (0,0,0,([]:Str),([]:List Val),0,0,([]:Str),([]:List Val),bs.reverse)=some (.nx (a.kind,a.n,a.name,a.kids,b.kind,b.n,b.name,b.kids,bs.reverse)):=by
    conv=>lhs;arg 7;rw[hj]
    rw[hs];unfold Lx gN;simp only[Tm.kids,e1,cond_true,show idx [x,y] 0=some x from rfl,qAb,h1,PZ.el,LR.el,vb,show((0:Int)==0)=true from rfl];rw[hs];unfold Lx gN;simp only[Tm.kids,e2,cond_true,cond_false,show idx [x,y] (0+1)=some y from rfl,qAb,h2,PZ.el,LR.el,vb,show((0:Int)+1==0)=false from rfl,show((0:Int)+1==1)=true from rfl];rw[hs];unfold Lx gN;rfl
   simp only[hl,qAb,asw,LR.el,alv]
theorem YI(n:Nat)(op:Int):yV n op=some (iO op):=by
 unfold yV iO
 grind
theorem avN(p:Val→Bool)(l:List Val):(((l.filter p).length:Int)==(l.length:Int))=l.all p:=by
 rw[qCe,beq_iff_eq,qAP,Int.natCast_inj,List.length_filter_eq_length_iff]
theorem aJc{y:Tm}{bs:List Bound}(hs:iO y.op=false)(hy:nK cs ds sz m g y bs):dV (fun l:List Val=>((l.headD v0).kids,bs.reverse)) (fun n=>bI n cs ds sz m bs.reverse y) bs.reverse (aN [aj g y bs]):=by
 refine dV.succ ?_;show dV _ (fun n=>rR n _ _ _ _ _ (aM n) _ _ _ _ _ _ _) _ _;unfold rR;simp only[YI,hs,qAb];unfold nK at hy;cases hr:aj g y bs with
 |er e=>rw[hr]at hy;obtain⟨he,z,hz⟩:=hy;exact⟨he,z,Ev.bind hz (Ev.ret _)⟩
 |ok v=>rw[hr]at hy;exact Ev.bind hy (Ev.ret _)
theorem aJB{nm:Str}{k:Int}{u:Ty}{z:Tm}{bs:List Bound}(hz:nK cs ds sz m g z bs):dV (fun l:List Val=>((l.headD v0).kids,bs.reverse)) (fun n=>bK n cs ds sz m bs.reverse (.mk 46 nm k u [z])) bs.reverse (aN [aj g z bs]):=by
 refine dV.succ ?_;show dV _ (fun n=>q9 n _ _ _ _ _ (aM n) _ _ _ _ _ _ _) _ _;unfold q9;simp only[YI,qAb];unfold nK at hz;cases hr:aj g z bs with
 |er e=>rw[hr]at hz;obtain⟨he,w,hw⟩:=hz;exact⟨he,w,Ev.bind hw (Ev.ret _)⟩
 |ok v=>rw[hr]at hz;exact Ev.bind hz (Ev.ret _)
theorem aJy{op:Int}{nm:Str}{k:Int}{u:Ty}{z w:Tm}{bs:List Bound}(ho:op=41∨op=42∨op=43∨op=44∨op=45)(hz:nK cs ds sz m g z bs)(hw:nK cs ds sz m g w bs):
  dV (fun l:List Val=>(op,nm,k,u.kind,u.name,u.kids,[z,w],(l.headD v0).kids,((l.drop 1).headD v0).kids,bs.reverse)) (fun n=>bJ n cs ds sz m bs.reverse (.mk op nm k u [z,w])) bs.reverse (aN [aj g z bs,aj g w bs]):=by
 refine dV.succ ?_;show dV _ (fun n=>rH n _ _ _ _ _ (aM n) _ _ _ _ _ _ _) _ _;unfold rH;have hs:iO op=true∧(op==46)=false:=by rcases ho with rfl|rfl|rfl|rfl|rfl<;>exact⟨rfl,rfl⟩
 simp only[YI,Tm.op,hs.1,hs.2];have e:aN [aj g z bs,aj g w bs]=(aj g z bs).thn fun a=>(aj g w bs).thn fun b=>RR.ok [a,b]:=by
  cases aj g z bs<;>cases aj g w bs<;>rfl
 rw[e];exact dV.bind hz fun a _=>dV.bind hw fun b _=>Ev.ret _
theorem aGw{env:Env}(hg:Xp env sz g){op:Int}{sc:List Decl}{t:Ty}{y:Tm}{bs:List Bound}(ho:op=16∨op=17∨op=18)(hs:Scp env sz sc bs)(hy:HT env sc y (au t))(hE:nK cs ds sz m g y bs)(hK:∀z∈y.kids,iO y.op=true→nK cs ds sz m g z bs)(a:Val)
  (ha:hasB env sz (cond (op==18) (au t) t) a=true) (la:a.kids.length≤256):
  dV (vb bs.reverse) (fun n=>cond (op==18)
    ((cond (decide (y.op<41) ||decide (46<y.op)) ((bI n cs ds sz m bs.reverse y).bind (PZ.el (fun(x21:(List Val)×(List Bound))=>((Gf n a.kids x21.1).bind fun(x22:List Val)=>((bN n ((x22.length:Int)==(a.kids.length:Int))).bind fun(x23:Val)=>some (.ok (x23,x21.2))))) (fun(e9:Int) z9=>some (.er e9 z9)))) (cond (y.op==46) ((bK n cs ds sz m bs.reverse y).bind (PZ.el (fun(x24:(List Val)×(List Bound))=>((Gq n a.kids x24.1).bind fun(x25:List Val)=>((bN n ((x25.length:Int)==(a.kids.length:Int))).bind fun(x26:Val)=>some (.ok (x26,x24.2))))) (fun(e10:Int) z10=>some (.er e10 z10)))) ((bJ n cs ds sz m bs.reverse y).bind (PZ.el (fun(x27:Int×Str×Int×Int×Str×(List Ty)×(List Tm)×(List Val)×(List Val)×(List Bound))=>((Gr n a.kids x27.1 x27.2.1 x27.2.2.1 x27.2.2.2.1 x27.2.2.2.2.1 x27.2.2.2.2.2.1 x27.2.2.2.2.2.2.1 x27.2.2.2.2.2.2.2.1 x27.2.2.2.2.2.2.2.2.1).bind fun(x28:List Val)=>((bN n ((x28.length:Int)==(a.kids.length:Int))).bind fun(x29:Val)=>some (.ok (x29,x27.2.2.2.2.2.2.2.2.2))))) (fun(e11:Int) z11=>some (.er e11 z11)))))))
    ((cond (decide (y.op<41) ||decide (46<y.op)) ((bI n cs ds sz m bs.reverse y).bind (PZ.el (fun(x9:(List Val)×(List Bound))=>((jM n a x9.1).bind fun(x10:Bool)=>((bN n (x10==(op==16))).bind fun(x11:Val)=>some (.ok (x11,x9.2))))) (fun(e5:Int) z5=>some (.er e5 z5)))) (cond (y.op==46) ((bK n cs ds sz m bs.reverse y).bind (PZ.el (fun(x12:(List Val)×(List Bound))=>((jP n a x12.1).bind fun(x13:Bool)=>((bN n (x13==(op==16))).bind fun(x14:Val)=>some (.ok (x14,x12.2))))) (fun(e6:Int) z6=>some (.er e6 z6)))) ((bJ n cs ds sz m bs.reverse y).bind (PZ.el (fun(x15:Int×Str×Int×Int×Str×(List Ty)×(List Tm)×(List Val)×(List Val)×(List Bound))=>((lF n a x15.1 x15.2.1 x15.2.2.1 x15.2.2.2.1 x15.2.2.2.2.1 x15.2.2.2.2.2.1 x15.2.2.2.2.2.2.1 x15.2.2.2.2.2.2.2.1 x15.2.2.2.2.2.2.2.2.1).bind fun(x16:Bool)=>((bN n (x16==(op==16))).bind fun(x17:Val)=>some (.ok (x17,x15.2.2.2.2.2.2.2.2.2))))) (fun(e7:Int) z7=>some (.er e7 z7))))))))
   bs.reverse (X9 op (nu g y) bs a):=by
 -- what a test makes of one value, or of a set
 have fin:∀{α:Type} {J:List Val→α} {f:Nat→Option (PZ α (List Bound))} {r:xU} {F:Nat→α→List Val→Option (List Val)} {D:Nat→Val→α→Option Bool} {B:α→List Bound},
   dV J f bs.reverse r→(∀l,B (J l)=bs.reverse)→(∀l,r=.ok l→∀x,hasB env sz t x=true→Ev (fun n=>D n x (J l)) (iB y.op l x))→(∀l,r=.ok l→op=18→Ev (fun n=>F n (J l) a.kids) (a.kids.filter (iB y.op l)))→
   dV (vb bs.reverse) (fun n=>cond (op==18) ((f n).bind (PZ.el (fun x=>((F n x a.kids).bind fun(q:List Val)=>((bN n ((q.length:Int)==(a.kids.length:Int))).bind fun(v:Val)=>some (.ok (v,B x))))) (fun e z=>some (.er e z))))
    ((f n).bind (PZ.el (fun x=>((D n a x).bind fun(q:Bool)=>((bN n (q==(op==16))).bind fun(v:Val)=>some (.ok (v,B x))))) (fun e z=>some (.er e z))))) bs.reverse
    (r.thn fun l=>.ok (aO (cond (op==18) (a.kids.all (iB y.op l)) (iB y.op l a==(op==16))))):=by
  intro α J f r F D B hf hB hD hF;cases h18:(op==18)with
  |true=>
   refine dV.bind hf fun l hl=>?_;have h1:=hF l hl (eq_of_beq h18);show Ev _ _;rw[cond_true,←avN,show vb bs.reverse _=(aO (((a.kids.filter (iB y.op l)).length:Int)==(a.kids.length:Int)),B (J l)) by rw[hB]];exact Ev.bind h1 (Ev.bind (CQ _) (Ev.ret _))
  |false=>
   rw[h18]at ha;refine dV.bind hf fun l hl=>?_;have h1:=hD l hl a ha;show Ev _ _;rw[cond_false,show vb bs.reverse _=(aO (iB y.op l a==(op==16)),B (J l)) by rw[hB]];exact Ev.bind h1 (Ev.bind (CQ _) (Ev.ret _))
 have hkids:op=18→∀x∈a.kids,hasB env sz t x=true:=fun h=>by
  subst h;obtain⟨l,rfl,_,h2⟩:=iV.1 ha;exact h2
 have S:∀{e:Ty} {w:Val},hasB env sz (au e) w=true→dO w.kids∧∀x∈w.kids,hasB env sz e x=true:=fun hw=>by
  obtain⟨l,rfl,h1,h2⟩:=iV.1 hw;exact⟨h1,h2⟩
 have la':a.kids.length≤1000000:=by omega
 have hsym:(decide (y.op<41) ||decide (46<y.op))=!(iO y.op):=by
  unfold iO
  grind
 rw[hsym];unfold X9 vv;show dV _ _ _ ((cond (iO y.op) (aN ((y.kids.map (aj g)).map fun g=>g bs)) (aN [aj g y bs])).thn _);by_cases hsy:iO y.op=true
 ·rw[hsy];cases hy with
  |fam q hq hz hw=>
   rename_i nm k u z w c d;have iz:=hK z (by simp[Tm.kids]) hsy;have iw:=hK w (by simp[Tm.kids]) hsy;have h46:(q==46)=false:=by rcases hq with rfl|rfl|rfl|rfl|rfl<;>rfl
   simp only[Tm.op,h46,cond_true,cond_false,qAv];have hT:∀l,aN [aj g z bs,aj g w bs]=.ok l→∃p r,l=[p,r]∧dO p.kids∧dO r.kids:=fun l hl=>by
    obtain⟨p,r,h1,h2,h3⟩:=seq2 (f:=fun l=>(RR.ok (mkSet l):VR)) (v:=mkSet l) (by rw[hl];rfl);cases h3;exact⟨p,r,rfl,(S (sound hg z sc _ bs p hz hs h1)).1,(S (sound hg w sc _ bs r hw hs h2)).1⟩
   have hD:∀l,aN [aj g z bs,aj g w bs]=.ok l→∀x,hasB env sz (au (aR c d)) x=true→Ev (fun n=>wu n q (l.headD v0).kids ((l.drop 1).headD v0).kids x.kids) (iB q l x):=fun l hl x hx=>by
    obtain⟨p,r,rfl,h1,h2⟩:=hT l hl;obtain⟨h3,h4⟩:=S hx;unfold iB;rw[show iO q=true from hsy,h46];exact ae6 q h1.1 h2.1 (Ap h1) (Ap h2) (fun v hv=>by
     obtain⟨s,t,rfl,_,_⟩:=qJ.1 (h4 v hv);exact⟨s,t,rfl⟩) (Ap h3)
   have h:=fin (α:=Int×Str×Int×Int×Str×(List Ty)×(List Tm)×(List Val)×(List Val)×(List Bound)) (F:=fun n x l=>Gr n l x.1 x.2.1 x.2.2.1 x.2.2.2.1 x.2.2.2.2.1 x.2.2.2.2.2.1 x.2.2.2.2.2.2.1 x.2.2.2.2.2.2.2.1 x.2.2.2.2.2.2.2.2.1) (D:=fun n v x=>lF n v x.1 x.2.1 x.2.2.1 x.2.2.2.1 x.2.2.2.2.1 x.2.2.2.2.2.1 x.2.2.2.2.2.2.1 x.2.2.2.2.2.2.2.1 x.2.2.2.2.2.2.2.2.1) (B:=fun x=>x.2.2.2.2.2.2.2.2.2) (aJy (nm:=nm) (k:=k) (u:=u) hq iz iw) (fun l=>rfl)
    (fun l hl x hx=>Ev.same (hD l hl x hx))
    (fun l hl h18=>D5 a.kids (fun n x=>lF n x q nm k u.kind u.name u.kids [z,w] (l.headD v0).kids ((l.drop 1).headD v0).kids) _ (fun x hx=>Ev.same (hD l hl x (hkids h18 x hx))) la')
   exact h
  |pow hz=>
   rename_i nm k u z c;have iz:=hK z (by simp[Tm.kids]) hsy;simp only[Tm.op,show((46:Int)==46)=true from rfl,cond_true,cond_false,qAv];have hD:∀l,aN [aj g z bs]=.ok l→∀x,hasB env sz (au c) x=true→Ev (fun n=>jP n x (l.headD v0).kids) (iB 46 l x):=fun l hl x hx=>by
    obtain⟨p,h1,h3⟩:=seq1 (f:=fun l=>(RR.ok (mkSet l):VR)) (v:=mkSet l) (by rw[hl];rfl);cases h3;have hp:=(S (sound hg z sc _ bs p hz hs h1)).1;have hx:=(S hx).1;show Ev _ (x.kids.all (aF p.kids));rw[←avN];exact Ev.bind (D5 x.kids (fun n v=>vO n v p.kids) (aF p.kids) (fun v _=>hp.has v) (Ap hx)) (Ev.ret _)
   have h:=fin (α:=List Val×List Bound) (F:=fun n x l=>Gq n l x.1) (D:=fun n v x=>jP n v x.1) (B:=fun x=>x.2) (aJB (nm:=nm) (k:=k) (u:=u) iz) (fun l=>rfl) hD
    (fun l hl h18=>D5 a.kids (fun n x=>jP n x (l.headD v0).kids) _ (fun x hx=>hD l hl x (hkids h18 x hx)) la')
   exact h
  |bin q hq=>rcases hq with rfl|rfl|rfl<;>cases hsy
  |dres q hq=>rcases hq with rfl|rfl<;>cases hsy
  |rres q hq=>rcases hq with rfl|rfl<;>cases hsy
  |_=>cases hsy
 ·rw[qDp]at hsy;rw[hsy];simp only[cond_true,cond_false,qBb];have hD:∀l,aN [aj g y bs]=.ok l→∀x:Val,Ev (fun n=>jM n x (l.headD v0).kids) (iB y.op l x):=fun l hl x=>by
   obtain⟨p,h1,h3⟩:=seq1 (f:=fun l=>(RR.ok (mkSet l):VR)) (v:=mkSet l) (by rw[hl];rfl);cases h3;have hp:=(S (sound hg y sc _ bs p hy hs h1)).1;unfold iB;rw[hsy];exact hp.has x
  have h:=fin (α:=List Val×List Bound) (F:=fun n x l=>Gf n l x.1) (D:=fun n v x=>jM n v x.1) (B:=fun x=>x.2) (aJc hsy hE) (fun l=>rfl) (fun l hl x _=>hD l hl x)
   (fun l hl h18=>D5 a.kids (fun n x=>jM n x (l.headD v0).kids) _ (fun x hx=>hD l hl x) la')
  exact h
end
end
section
open Go
section
variable {cs:List Carrier}{ds:List Decl}{sz:List Int}{m:List (Str×Val)}{g:Str→Val}
theorem ar0{env:Env}{sc:List Decl}{bs:List Bound}(h:Scp env sz sc bs)(s:Str)(hb:bs.find? (fun b=>b.name==s)=none):sc.find? (fun d=>d.name==s)=none:=by
 induction h with
 |nil=>rfl
 |cons h k ih=>
  grind
def LkE(env:Env)(cs:List Carrier)(ds:List Decl)(sz:List Int)(m:List (Str×Val))(g:Str→Val):Prop:=∀s t,look env s=some t→∀b,Ev (fun n=>adY n cs ds sz m b s) (.ok (g s))
theorem azl{env:Env}(hk:LkE env cs ds sz m g){sc:List Decl}{bs:List Bound}(h:Scp env sz sc bs){s:Str}{t:Ty}(ht:nJ env sc s=some t):Ev (fun n=>nY n cs ds sz m bs.reverse s) (pz (.ok (Ml g bs s))):=by
 unfold nY Ml;rw[qEl];cases hb:bs.find? (fun b=>b.name==s)with
 |some b=>exact Ev.ret _
 |none=>
  unfold nJ at ht;rw[ar0 h s hb]at ht;exact hk s t ht _
theorem lT{t:Tm}{bs:List Bound}(h:dV (vb bs.reverse) (fun n=>sI n (bJ n) (bK n) (bI n) (dw n) (dJ n) (aM n) (dD n) cs ds sz m bs.reverse t) bs.reverse (aj g t bs)):nK cs ds sz m g t bs:=dV.succ h
def xw(op:Int):Bool:=op==3 ||(op==7 ||(decide (10≤op)&&decide (op≤15) ||(decide (21≤op)&&decide (op≤27) ||decide (30≤op)&&decide (op≤54))))
theorem aqZ(n:Nat){r1 r2 r3 r4 r5 r6 r7}{op:Int}{nm:Str}{k:Int}{u:Ty}{ks:List Tm}{b:List Bound}(h:xw op=true):
  sI n r1 r2 r3 r4 r5 r6 r7 cs ds sz m b (.mk op nm k u ks)=(Kn n r1 r2 r3 r4 r5 r6 r7 cs ds sz m (.mk op nm k u ks) n (0,0,0,([]:Str),([]:List Val),0,0,([]:Str),([]:List Val),b)).bind (asw op n):=by
 unfold xw at h;simp at h;have e:∀c:Int,(c=1∨c=2∨c=19∨c=20∨c=29∨c=4∨c=5∨c=6∨c=8∨c=9∨c=55∨c=56∨c=16∨c=17∨c=18∨c=28)→(op==c)=false:=fun c hc=>by
  rw[beq_eq_false_iff_ne];omega
 unfold sI;simp only[Tm.op,e 1 (by omega),e 2 (by omega),e 19 (by omega),e 20 (by omega),e 29 (by omega),e 4 (by omega),e 5 (by omega),e 6 (by omega),e 8 (by omega),e 9 (by omega),e 55 (by omega),e 56 (by omega),e 16 (by omega),e 17 (by omega),e 18 (by omega),e 28 (by omega),cond_false,qAb]
theorem adW{op:Int}{nm:Str}{k:Int}{ks:List Kd}{bs:List Bound}(h:xw op=true):Za g op nm k ks bs=(aN (ks.map fun k=>k.f bs)).thn (bB op):=by
 unfold xw at h;simp at h;have e:∀c:Int,(c=1∨c=2∨c=19∨c=20∨c=29∨c=4∨c=5∨c=6∨c=8∨c=9∨c=55∨c=56∨c=16∨c=17∨c=18∨c=28)→(op==c)=false:=fun c hc=>by
  rw[beq_eq_false_iff_ne];omega
 unfold Za bY
 grind
theorem app1{op:Int}{nm:Str}{k:Int}{u:Ty}{x:Tm}{bs:List Bound}(h:xw op=true)(hx:nK cs ds sz m g x bs)(hA:∀a,aj g x bs=.ok a→Ev (fun n=>oz n op a v0) (pz (CG op a v0))):nK cs ds sz m g (.mk op nm k u [x]) bs:=by
 have h28:(op==28)=false:=by
  unfold xw at h
  grind
 refine lT ?_;rw[bG,adW h];simp only[aqZ _ h];exact aGd h28 hx hA
theorem Fq{op:Int}{nm:Str}{k:Int}{u:Ty}{x y:Tm}{bs:List Bound}(h:xw op=true)(hx:nK cs ds sz m g x bs)(hy:nK cs ds sz m g y bs)(hA:∀a b,aj g x bs=.ok a→aj g y bs=.ok b→Ev (fun n=>oz n op a b) (pz (CG op a b))):nK cs ds sz m g (.mk op nm k u [x,y]) bs:=by
 have h28:(op==28)=false:=by
  unfold xw at h
  grind
 refine lT ?_;rw[bG,adW h];simp only[aqZ _ h];exact aGG h28 hx hy hA
theorem arW{env:Env}(hg:Xp env sz g){op:Int}{nm:Str}{k:Int}{u:Ty}{sc:List Decl}{t:Ty}{x y:Tm}{bs:List Bound}(ho:op=16∨op=17∨op=18)(hs:Scp env sz sc bs)(hx:HT env sc x (cond (op==18) (au t) t))(hy:HT env sc y (au t))(hX:nK cs ds sz m g x bs)(hE:nK cs ds sz m g y bs)
  (hK:∀z∈y.kids,iO y.op=true→nK cs ds sz m g z bs) (hl:∀v,aj g x bs=.ok v→v.kids.length≤256):nK cs ds sz m g (.mk op nm k u [x,y]) bs:=by
 refine lT ?_;have e:aj g (.mk op nm k u [x,y]) bs=(aj g x bs).thn (X9 op (nu g y) bs):=by
  rw[bG];rcases ho with rfl|rfl|rfl<;>rfl
 rw[e];have main:=fun a (ha:aj g x bs=.ok a)=>aGw (cs:=cs) (ds:=ds) (m:=m) hg ho hs hy hE hK a (sound hg x sc _ bs a hx hs ha) (hl a ha);rcases ho with rfl|rfl|rfl
 ·exact dV.mono (f:=fun n=>(aM n cs ds sz m bs.reverse x).bind (PZ.el (fun x7=>_) (fun e8 z8=>some (.er e8 z8)))) (fun v h=>h) (dV.bind (K:=vb bs.reverse) hX main)
 ·exact dV.mono (f:=fun n=>(aM n cs ds sz m bs.reverse x).bind (PZ.el (fun x7=>_) (fun e8 z8=>some (.er e8 z8)))) (fun v h=>h) (dV.bind (K:=vb bs.reverse) hX main)
 ·exact dV.mono (f:=fun n=>(aM n cs ds sz m bs.reverse x).bind (PZ.el (fun x7=>_) (fun e8 z8=>some (.er e8 z8)))) (fun v h=>h) (dV.bind (K:=vb bs.reverse) hX main)
end
theorem avi{env:Env}{sz:List Int}{t:Ty}{v:Val}(h:hasB env sz t v=true):v.kids.length≤256:=by
 obtain⟨k,nm,ks⟩:=t;rw[hasB]at h;unfold acs abw OD at h
 grind
theorem aek{env:Env}{cs:List Carrier}{ds:List Decl}{sz:List Int}{m:List (Str×Val)}{g:Str→Val}(hg:Xp env sz g)(hk:LkE env cs ds sz m g)(t:Tm):
  (∀d sc ty bs,Wf d t→HT env sc t ty→Scp env sz sc bs→(bs.length:Int)<d→nK cs ds sz m g t bs)∧∀z∈t.kids,∀d sc ty bs,Wf d z→HT env sc z ty→Scp env sz sc bs→(bs.length:Int)<d→nK cs ds sz m g z bs:=by
 induction t using Tm.ind with
 |h op nm k u ks ih=>
 refine⟨?_,fun z hz=>(ih z hz).1⟩;intro d sc ty bs hw ht hs hb;obtain⟨hnode,hd,hkl,hkw⟩:=hw.node;have hbl:bs.length≤1000:=by omega
 have S:∀{e:Ty} {w:Val},hasB env sz (au e) w=true→dO w.kids∧∀x∈w.kids,hasB env sz e x=true:=fun hw=>by
  obtain⟨l,rfl,h1,h2⟩:=iV.1 hw;exact⟨h1,h2⟩
 have R:∀{a b:Ty} {w:Val},hasB env sz (au (aR a b)) w=true→fI w.kids:=fun hw p hp=>by
  obtain⟨x,y,rfl,_,_⟩:=qJ.1 ((S hw).2 p hp);exact⟨x,y,rfl⟩
 have I:∀{w:Val},hasB env sz fE w=true→EU w.n:=fun hw=>by
  obtain⟨n,rfl,h⟩:=sG.1 hw;exact h
 have D:=fun x (hx:x∈ks) ty (h:HT env sc x ty)=>(ih x hx).1 (d+1) sc ty bs (hkw x hx) h hs (by omega);have V:∀{x:Tm} {ty:Ty} {v:Val},HT env sc x ty→aj g x bs=.ok v→hasB env sz ty v=true:=fun h e=>sound hg _ sc _ bs _ h hs e;have z0:dO v0.kids:=⟨.nil,by simp[v0,Val.kids]⟩;have sA:∀{op:Int} {a b:Val},31≤op→dO a.kids→dO b.kids→((35≤op∧op≤36∨39≤op∧op≤40∨50≤op∧op≤54)→fI a.kids)→(35≤op∧op≤38→fI b.kids)→SetsOk op a b:=fun h31 h1 h2 h3 h4=>⟨fun h=>by omega,fun _=>⟨h1,h2⟩,h3,h4⟩;have bn:∀{op:Int} {x y:Tm} {e t:Ty},bY op=true→ks=[x,y]→HT env sc x (au e)→HT env (⟨nm,e⟩::sc) y t→dV (vb bs.reverse) (fun n=>dJ n cs ds sz m bs.reverse (.mk op nm k u [x,y])) bs.reverse (aj g (.mk op nm k u [x,y]) bs):=fun hbd hks hx hy=>by
  subst hks;refine aAp hbd (D _ (by simp) _ hx) hbl (fun v hv=>(S (V hx hv)).1.2) fun v hv a ha=>?_;exact(ih _ (by simp)).1 (d+1) _ _ _ (hkw _ (by simp)) hy (.cons ((S (V hx hv)).2 a ha) hs) (by simp;omega)
 have K:∀{y:Tm} {t:Ty},y∈ks→HT env sc y (au t)→∀z∈y.kids,iO y.op=true→nK cs ds sz m g z bs:=fun{y t} hym hy z hz hsy=>by
  have hwy:=(hkw y hym);have hi:=fun hT=>(ih y hym).2 z hz (d+1+1) sc hT bs;cases hy with
  |fam q hq hz1 hw1=>
   have hz:z∈[_,_]:=hz;have hwz:=hwy.node.2.2.2 z hz;rcases qAh.1 hz with rfl|hz'
   ·exact hi _ hwz hz1 hs (by omega)
   ·have hz':=qAK.1 hz';subst hz';exact hi _ hwz hw1 hs (by omega)
  |pow hz1=>
   have hz:z∈[_]:=hz;have hwz:=hwy.node.2.2.2 z hz;have hz':=qAK.1 hz;subst hz';exact hi _ hwz hz1 hs (by omega)
  |bin q hq=>rcases hq with rfl|rfl|rfl<;>cases hsy
  |dres q hq=>rcases hq with rfl|rfl<;>cases hsy
  |rres q hq=>rcases hq with rfl|rfl<;>cases hsy
  |_=>cases hsy
 cases ht with
 |lit op ho=>
  refine lT ?_;rcases ho with rfl|rfl
  ·exact Ev.of fun _=>rfl
  ·exact Ev.of fun _=>rfl
 |int h=>
  refine lT ?_;exact dV.pure (r:=gM k) (M5 k) (Er.int k)
 |name hl=>
  refine lT ?_;exact dV.pure (azl hk hs hl) (Er.ok _)
 |empty h=>
  refine lT ?_;exact Ev.of fun _=>rfl
 |not hx=>exact app1 rfl (D _ (by simp) _ hx) fun a ha=>iE (by omega) (by omega) (by omega) (by omega) (by omega) (by omega) (by omega)
 |log op ho hx hy=>
  rename_i x y;rcases ho with rfl|rfl|rfl|rfl
  ·exact lT (dV.same (ahl (by omega) (D _ (by simp) _ hx) (D _ (by simp) _ hy)))
  ·exact lT (dV.same (ahl (by omega) (D _ (by simp) _ hx) (D _ (by simp) _ hy)))
  ·exact lT (dV.same (ahl (by omega) (D _ (by simp) _ hx) (D _ (by simp) _ hy)))
  ·exact Fq rfl (D _ (by simp) _ hx) (D _ (by simp) _ hy) fun a b ha hb=>iE (by omega) (by omega) (by omega) (by omega) (by omega) (by omega) (by omega)
 |qu op ho hx hy=>
  rename_i x y e;rcases ho with rfl|rfl
  ·exact lT (dV.same (bn rfl rfl hx hy))
  ·exact lT (dV.same (bn rfl rfl hx hy))
 |compr hx hy=>exact lT (dV.same (bn rfl rfl hx hy))
 |fn hgt hx hy=>exact lT (dV.same (bn rfl rfl hx hy))
 |eq op ho hgt hx hy=>
  rcases ho with rfl|rfl
  ·exact Fq rfl (D _ (by simp) _ hx) (D _ (by simp) _ hy) fun a b ha hb=>iE (by omega) (by omega) (by omega) (by omega) (by omega) (by omega) (by omega)
  ·exact Fq rfl (D _ (by simp) _ hx) (D _ (by simp) _ hy) fun a b ha hb=>iE (by omega) (by omega) (by omega) (by omega) (by omega) (by omega) (by omega)
 |ord op ho hx hy=>
  have h1:xw op=true:=by rcases ho with rfl|rfl|rfl|rfl<;>rfl
  exact Fq h1 (D _ (by simp) _ hx) (D _ (by simp) _ hy) fun a b ha hb=>iE (by omega) (by omega) (by omega) (by omega) (by omega) (by omega) (by omega)
 |inn op ho hx hy=>
  rename_i x y t;have h18:(op==18)=false:=by rcases ho with rfl|rfl<;>rfl
  exact arW hg (by omega) hs (by rw[h18];exact hx) hy (D _ (by simp) _ hx) (D _ (by simp) _ hy) (K (by simp) hy) fun v hv=>avi (V hx hv)
 |sub hx hy=>exact arW hg (.inr (.inr rfl)) hs hx hy (D _ (by simp) _ hx) (D _ (by simp) _ hy) (K (by simp) hy) fun v hv=>avi (V hx hv)
 |neg hx=>exact app1 rfl (D _ (by simp) _ hx) fun a ha=>iE (by omega) (fun _=>⟨I (V hx ha),by constructor<;>simp[v0,Val.n]⟩) (by omega) (by omega) (by omega) (by omega) (by omega)
 |num op ho hx hy=>
  have h1:xw op=true:=by rcases ho with rfl|rfl|rfl|rfl|rfl<;>rfl
  exact Fq h1 (D _ (by simp) _ hx) (D _ (by simp) _ hy) fun a b ha hb=>iE (by omega) (fun _=>⟨I (V hx ha),I (V hy hb)⟩) (by omega) (by omega) (by omega) (by omega) (by omega)
 |pair h1 h2 hx hy=>exact Fq rfl (D _ (by simp) _ hx) (D _ (by simp) _ hy) fun a b ha hb=>iE (by omega) (by omega) (by omega) (by omega) (by omega) (by omega) (by omega)
 |set hgt hn hx=>
  refine lT ?_;have e:aj g (.mk 28 nm k u ks) bs=(aN (ks.map fun t=>aj g t bs)).thn bF:=by
   rw[bG];show(aN ((ks.map (nu g)).map fun k=>k.f bs)).thn bF=_;rw[qBh];rfl
  rw[e];exact aAd (fun x hx'=>D x hx' _ (hx x hx')) (by omega)
 |range hx hy=>exact Fq rfl (D _ (by simp) _ hx) (D _ (by simp) _ hy) fun a b ha hb=>iE (by omega) (by omega) (by omega) (by omega) (by omega) (by omega) fun _=>⟨fun _=>⟨I (V hx ha),I (V hy hb)⟩,fun h=>absurd rfl h,by omega,by omega⟩
 |bin op ho hx hy=>
  have h1:xw op=true:=by rcases ho with rfl|rfl|rfl<;>rfl
  exact Fq h1 (D _ (by simp) _ hx) (D _ (by simp) _ hy) fun a b ha hb=>iE (by omega) (by omega) (by omega) (by omega) (by omega) (by omega) fun _=>sA (by omega) (S (V hx ha)).1 (S (V hy hb)).1 (by omega) (by omega)
 |prod hx hy=>exact Fq rfl (D _ (by simp) _ hx) (D _ (by simp) _ hy) fun a b ha hb=>iE (by omega) (by omega) (by omega) (by omega) (by omega) (by omega) fun _=>sA (by omega) (S (V hx ha)).1 (S (V hy hb)).1 (by omega) (by omega)
 |over hx hy=>exact Fq rfl (D _ (by simp) _ hx) (D _ (by simp) _ hy) fun a b ha hb=>iE (by omega) (by omega) (by omega) (by omega) (by omega) (by omega) fun _=>sA (by omega) (S (V hx ha)).1 (S (V hy hb)).1 (fun _=>R (V hx ha)) (fun _=>R (V hy hb))
 |comp hx hy=>exact Fq rfl (D _ (by simp) _ hx) (D _ (by simp) _ hy) fun a b ha hb=>iE (by omega) (by omega) (by omega) (by omega) (by omega) (by omega) fun _=>sA (by omega) (S (V hx ha)).1 (S (V hy hb)).1 (fun _=>R (V hx ha)) (fun _=>R (V hy hb))
 |dres op ho hx hy=>
  have h1:xw op=true:=by rcases ho with rfl|rfl<;>rfl
  exact Fq h1 (D _ (by simp) _ hx) (D _ (by simp) _ hy) fun a b ha hb=>iE (by omega) (by omega) (by omega) (by omega) (by omega) (by omega) fun _=>sA (by omega) (S (V hx ha)).1 (S (V hy hb)).1 (by omega) (fun _=>R (V hy hb))
 |rres op ho hx hy=>
  have h1:xw op=true:=by rcases ho with rfl|rfl<;>rfl
  exact Fq h1 (D _ (by simp) _ hx) (D _ (by simp) _ hy) fun a b ha hb=>iE (by omega) (by omega) (by omega) (by omega) (by omega) (by omega) fun _=>sA (by omega) (S (V hx ha)).1 (S (V hy hb)).1 (fun _=>R (V hx ha)) (by omega)
 |fam op ho hx hy=>
  have h1:xw op=true:=by rcases ho with rfl|rfl|rfl|rfl|rfl<;>rfl
  exact Fq h1 (D _ (by simp) _ hx) (D _ (by simp) _ hy) fun a b ha hb=>iE (by omega) (by omega) (by omega) (by omega) (by omega) (by omega) fun _=>sA (by omega) (S (V hx ha)).1 (S (V hy hb)).1 (by omega) (by omega)
 |pow hx=>exact app1 rfl (D _ (by simp) _ hx) fun a ha=>iE (by omega) (by omega) (by omega) (by omega) (by omega) (by omega) fun _=>sA (by omega) (S (V hx ha)).1 z0 (by omega) (by omega)
 |card hx=>exact app1 rfl (D _ (by simp) _ hx) fun a ha=>iE (by omega) (by omega) (fun _=>(S (V hx ha)).1) (by omega) (by omega) (by omega) (by omega)
 |ext op ho hx=>
  have h1:xw op=true:=by rcases ho with rfl|rfl<;>rfl
  exact app1 h1 (D _ (by simp) _ hx) fun a ha=>iE (by omega) (by omega) (fun _=>(S (V hx ha)).1) (by omega) (by omega) (by omega) (by omega)
 |dom hx=>exact app1 rfl (D _ (by simp) _ hx) fun a ha=>iE (by omega) (by omega) (by omega) (by omega) (by omega) (by omega) fun _=>sA (by omega) (S (V hx ha)).1 z0 (fun _=>R (V hx ha)) (by omega)
 |ran hx=>exact app1 rfl (D _ (by simp) _ hx) fun a ha=>iE (by omega) (by omega) (by omega) (by omega) (by omega) (by omega) fun _=>sA (by omega) (S (V hx ha)).1 z0 (fun _=>R (V hx ha)) (by omega)
 |inv hx=>exact app1 rfl (D _ (by simp) _ hx) fun a ha=>iE (by omega) (by omega) (by omega) (by omega) (by omega) (by omega) fun _=>sA (by omega) (S (V hx ha)).1 z0 (fun _=>R (V hx ha)) (by omega)
 |image hx hy=>exact Fq rfl (D _ (by simp) _ hx) (D _ (by simp) _ hy) fun a b ha hb=>iE (by omega) (by omega) (by omega) (by omega) (by omega) (by omega) fun _=>sA (by omega) (S (V hx ha)).1 (S (V hy hb)).1 (fun _=>R (V hx ha)) (by omega)
 |app hx hy=>exact Fq rfl (D _ (by simp) _ hx) (D _ (by simp) _ hy) fun a b ha hb=>iE (by omega) (by omega) (fun _=>(S (V hx ha)).1) (fun _=>R (V hx ha)) (by omega) (by omega) (by omega)
end
section
open Go
def bT(env:Env)(t:Tm):Ty×List Int×Int:=cond (aW env&&cO t) (YQ (bX env [] t)) (bH,[],1)
theorem wR:GoodS []:=fun _ h=>by cases h
abbrev FQ(env:Env):Prop:=∀d∈env.names,d.name.length≤9223372036854775807
theorem QD(env:Env)(t:Tm)(hs:FQ env)(ht:iN t):Ev (fun n=>A8 n env t) (bT env t):=by
 unfold A8 bT;refine Ev.bind (a:=!(aW env&&cO t)) ?_ ?_
 ·refine Ev.bind (C8 env hs) ?_;cases aW env with
  |false=>exact Ev.ret _
  |true=>exact Ev.bind (OB t ht) (Ev.ret _)
 ·cases hb:(aW env&&cO t)with
  |false=>exact Ev.ret _
  |true=>
   simp only[qAa]at hb;simp only[qAv,cond_false,cond_true];refine Ev.bind (aoL hb.1) ?_;refine Ev.bind (aGC hb.1 t 1 [] [] (sP hb.2) wR (by simp)) ?_;cases hr:bX env [] t with
   |er e p=>
    have he:=IG t [] e p hr;have e0:(e !=0)=true:=by simpa using he
    have hp:=ab0 (sP hb.2) [] e p hr;simp only[VB,YQ,e0,cond_true,slices_Clone_int,qAo];rw[qh (by simp;omega) (by omega)];exact Ev.ret _
   |ok u=>
    simp only[VB,YQ,show((0:Int)!=0)=false from rfl,cond_false];exact Ev.bind (atu u (aAH (sV hb.1 wR hr))) (Ev.ret _)
end
section
open Go
def elems(name:Str)(k:Nat):List Val:=(List.range k).map fun(i:Nat)=>Val.mk 3 (i:Int) name []
def yM:List Carrier→List Int→Str→Option Val
 |c::cs,z::zs,s=>cond (c.name==s) (some (mkSet (elems c.name z.toNat))) (cond (decide (0≤dR (fun e=>s==e) 0 c.elems)) (some (.mk 3 (dR (fun e=>s==e) 0 c.elems) c.name [])) (yM cs zs s))
 |_,_,_=>none
def vG(w:S_api_World):List (Str×Val):=gI ((w.env.names.zip w.values).map fun q=>(q.1.name,q.2)) []
def aI(w:S_api_World)(s:Str):Val:=match dn (vG w) s with
 |some v=>v
 |none=>(yM w.env.carriers w.sizes s).getD v0
theorem mR{w:S_api_World}(h:gW w=true):aW w.env=true∧uj w.env w.sizes=true∧w.values.length=w.env.names.length∧∀q∈w.env.names.zip w.values,hasB w.env w.sizes q.1.ty q.2=true:=by
 unfold gW at h
 grind
theorem aFM(nm:Str)(z:Int)(h0:0≤z)(h8:z≤8):Ev (fun n=>MH n nm z) (elems nm z.toNat):=by
 have hz:(((List.range z.toNat).length:Nat):Int)=z:=by rw[List.length_range];omega
 have h:=mG (ρ:=List Val) (List.range z.toNat) (fun n=>BX n nm z) (fun i s=>(s,i)) (fun i=>[Val.mk 3 (i:Int) nm []]) 1000 (by omega) (fun n rec s=>by
  unfold BX;rw[hz,decide_eq_false (Int.lt_irrefl _)];rfl) (fun pre x suf s e hb=>⟨0,fun n hn rec=>by
  have hx:x=pre.length:=by
   have h1:=congrArg (fun l=>l[pre.length]?) e
   grind
  have hl:pre.length<z.toNat:=by
   grind
  unfold BX;rw[decide_eq_true (by simp;omega),hx];rw[dQ (by simpa using hb)];rfl⟩) (s0:=[]) (by rw[flatMap_one];simp;omega)
 rw[flatMap_one]at h;exact Ev.bind h (Ev.ret _)
theorem aAs(es:List Str)(s:Str):Ev (fun n=>Y1 n es s) (dR (fun e=>s==e) 0 es):=by
 exact vo es (fun n k i=>ae8 n es s k i) (fun _ x=>some (s==x)) (fun e=>s==e) (fun n k i=>rfl) (fun x _=>Ev.ret _)
theorem aea:∀(pre:List Carrier) (ps:List Int) (c:Carrier) (suf:List Carrier) (z:Int) (zs:List Int),pre.length=ps.length→J4 (pre++c::suf) (ps++z::zs)=true→abf c z=false
 |[],[],c,suf,z,zs,_,h=>by
  simp only[qAo,J4,qAa,qAV]at h;exact h.1
 |[],p::ps,_,_,_,_,hl,_=>by simp at hl
 |a::pre,[],_,_,_,_,hl,_=>by simp at hl
 |a::pre,p::ps,c,suf,z,zs,hl,h=>by
  simp only[qAM,J4,qAa]at h;exact aea pre ps c suf z zs (by simpa using hl) h.2
theorem adi{c:Carrier}{z:Int}(h:abf c z=false):1≤z∧z≤8∧((c.elems.length:Int)=0∨z=c.elems.length):=by
 unfold abf at h
 grind
theorem awM{env:Env}{sz:List Int}(h:uj env sz=true):J4 env.carriers sz=true:=by
 unfold uj at h
 grind
theorem anH(env:Env)(sz:List Int)(hf:uj env sz=true)(s:Str):∀(suf:List Carrier) (zs:List Int) (pre:List Carrier) (ps:List Int),env.carriers=pre++suf→sz=ps++zs→pre.length=ps.length→suf.length=zs.length→
  ∃N,∀n,N≤n→∀k,suf.length+1≤k→YV n env.carriers sz s k (pre.length:Int)=some (match yM suf zs s with|some v=>.rt (.ok v)|none=>.nx ())
 |[],[],pre,ps,he,_,_,_=>by
  refine⟨0,fun n _ k hk=>?_⟩;obtain⟨j,rfl⟩:∃j,k=j+1:=⟨k - 1,by omega⟩;show FN n env.carriers sz s _ _=_;unfold FN;rw[decide_eq_false (by rw[he];simp)];rfl
 |[],z::zs,_,_,_,_,_,h=>by simp at h
 |c::suf,[],_,_,_,_,_,h=>by simp at h
 |c::suf,z::zs,pre,ps,he,hz,hp,hl=>by
  have hfit:=awM hf;rw[he,hz]at hfit;obtain⟨z1,z2,_⟩:=adi (aea pre ps c suf z zs hp hfit);obtain⟨N1,h1⟩:=aFM c.name z (by omega) z2;obtain⟨N2,h2⟩:=aAs c.elems s;obtain⟨N3,h3⟩:=anH env sz hf s suf zs (pre++[c]) (ps++[z]) (by simp[he]) (by simp[hz]) (by simp[hp]) (by simpa using hl);refine⟨N1+N2+N3,fun n hn k hk=>?_⟩;obtain⟨j,rfl⟩:∃j,k=j+1:=⟨k - 1,by omega⟩;have h1:MH n c.name z=_:=h1 n (by omega);have h2:Y1 n c.elems s=_:=h2 n (by omega);have h3:=h3 n (by omega) j (by simp at hk;omega);have hi:=(bg hz).2;rw[←hp]at hi;show FN n env.carriers sz s (YV n env.carriers sz s j) _=_;unfold FN yM;rw[(bg he).1];simp only[cond_true,(bg he).2,qAb,hi,h1,h2];cases c.name==s
  ·cases decide (0≤dR (fun e=>s==e) 0 c.elems)
   ·rw[show(pre.length:Int)+1=((pre++[c]).length:Int) by simp];exact h3
   ·rfl
  ·rfl
theorem apK(env:Env)(sz:List Int)(hf:uj env sz=true)(hn:(env.carriers.map (·.name)).Nodup)(s:Str):∀(suf:List Carrier) (zs:List Int) (pre:List Carrier) (ps:List Int),env.carriers=pre++suf→sz=ps++zs→pre.length=ps.length→suf.length=zs.length→
  (match yM suf zs s with|some v=>∃t,(s,t)∈suf.flatMap kR∧hasB env sz t v=true|none=>∀t,(s,t)∉suf.flatMap kR)
 |[],[],pre,ps,he,_,_,_=>by simp[yM]
 |[],z::zs,_,_,_,_,_,h=>by simp at h
 |c::suf,[],_,_,_,_,_,h=>by simp at h
 |c::suf,z::zs,pre,ps,he,hz,hp,hl=>by
  have hfit:=awM hf;rw[he,hz]at hfit;obtain⟨z1,z2,z3⟩:=adi (aea pre ps c suf z zs hp hfit);have ih:=apK env sz hf hn s suf zs (pre++[c]) (ps++[z]) (by simp[he]) (by simp[hz]) (by simp[hp]) (by simpa using hl);have hsz:He env sz c.name=z:=by
   have key:∀(q:List Carrier) (i:Int),(∀d∈q,d.name≠c.name)→dR (fun d:Carrier=>d.name==c.name) i (q++c::suf)=i+q.length:=by
    intro q
    induction q with
    |nil=>intro i _;simp[dR]
    |cons d q ihq=>
     intro i h;have h1:(d.name==c.name)=false:=by simpa using h d (by simp)
     rw[qAM,dR,h1,cond_false,ihq _ fun e he=>h e (by simp[he])];simp;omega
   unfold He;rw[he,key pre 0 (fun d hd hdc=>by
    rw[he,qBj,qDe]at hn;exact hn.2.2 d.name (qAJ.2 ⟨d,hd,rfl⟩) c.name (by simp) hdc),Int.zero_add]
   have hi:=(bg hz).2;rw[←hp]at hi;rw[hi];rfl
  have hel:∀i:Int,0≤i→i<z→hasB env sz (nD c.name) (.mk 3 i c.name [])=true:=fun i h1 h2=>by
   rw[show hasB env sz (nD c.name) (.mk 3 i c.name [])=OD env sz c.name (.mk 3 i c.name []) by unfold nD hasB;rfl];unfold OD;simp[Val.kind,Val.name,Val.kids,Val.n,hsz,h1,h2]
  unfold yM;cases hc:(c.name==s)with
  |true=>
   have hc:=eq_of_beq hc;subst hc;refine⟨au (nD c.name),by simp[kR],iV.2 ⟨_,rfl,⟨?_,?_⟩,fun x hx=>?_⟩⟩
   ·unfold elems;rw[List.pairwise_map];refine List.Pairwise.imp (fun{a b} hab=>?_) qDv;show bQ _ _<0;rw[zw,zy,zy];exact .inr ⟨(pF 3 3).2 rfl,.inl ((ad7 _ _).2 (by omega))⟩
   ·unfold elems;simp;omega
   ·unfold elems at hx;obtain⟨i,hi,rfl⟩:=qAJ.1 hx;rw[qBW]at hi;exact hel i (by omega) (by omega)
  |false=>
   have hge:=mO (fun e=>s==e) c.elems 0 (qBD _);simp only[cond_false];cases hd:decide (0≤dR (fun e=>s==e) 0 c.elems)with
   |true=>
    simp only[cond_true];rw[hd]at hge;obtain⟨e,he',hse⟩:=qCB.1 hge.symm;have hse:s=e:=eq_of_beq hse;refine⟨nD c.name,?_,hel _ (of_decide_eq_true hd) ?_⟩
    ·rw[qBf,qAr];exact .inl (qAk _ (qAJ.2 ⟨e,he',by rw[hse]⟩))
    ·rcases Dw (fun e=>s==e) c.elems []with⟨x,_,_,g1,g2⟩|⟨_,g⟩
     ·simp only[qAA,qAo]at g1 g2;rw[show(((0:Nat):Int))=0 from rfl]at g1 g2;unfold idx at g2;rw[if_pos g1]at g2;have hlt:=(qAH.1 g2).1;rcases z3 with h|h<;>omega
     ·simp only[qAA]at g;rw[show(((0:Nat):Int))=0 from rfl]at g;have:=of_decide_eq_true hd;omega
   |false=>
    simp only[cond_false];rw[hd]at hge;have hno:∀t,(s,t)∉kR c:=fun t ht=>by
     unfold kR at ht;rcases qAh.1 ht with ht|ht
     ·cases ht;simp at hc
     ·obtain⟨e,he',hee⟩:=qAJ.1 ht;cases hee;have:=qDP.1 hge.symm s he';simp at this
    cases hv:yM suf zs s with
    |some v=>
     rw[hv]at ih;obtain⟨t,h1,h2⟩:=ih;exact⟨t,by rw[qBf,qAr];exact .inr h1,h2⟩
    |none=>
     rw[hv]at ih;intro t ht;rw[qBf,qAr]at ht;exact ht.elim (hno t) (ih t)
theorem aA3(ds:List Decl)(vs:List Val)(h:vs.length=ds.length):((ds.zip vs).map fun q=>(q.1.name,q.2)).map (·.1)=ds.map (·.name):=by
 induction ds generalizing vs with
 |nil=>simp
 |cons d ds ih=>
  cases vs with
  |nil=>simp at h
  |cons v vs=>
   simp_all
theorem J8{w:S_api_World}(h:gW w=true)(s:Str):dn (vG w) s=dn ((w.env.names.zip w.values).map fun q=>(q.1.name,q.2)) s∧(((w.env.names.zip w.values).map fun q=>(q.1.name,q.2)).map (·.1)).Nodup:=by
 obtain⟨h1,h2,h3,h4⟩:=mR h;have hn:(((w.env.names.zip w.values).map fun q=>(q.1.name,q.2)).map (·.1)).Nodup:=by
  rw[aA3 _ _ h3];have:=(iJ h1).2.2.2.2;unfold names2 at this
  grind
 unfold vG;rw[QV _ _ _ hn,Oe]
 grind
theorem anT{env:Env}(h:aW env=true):(env.carriers.map (·.name)).Nodup:=by
 have:=(iJ h).2.2.2.2;unfold names2 at this
 grind
theorem PS{w:S_api_World}(h:gW w=true)(s:Str)(t:Ty)(ht:look w.env s=some t):(∃v,dn (vG w) s=some v∧aI w s=v∧hasB w.env w.sizes t v=true)∨(∃v,dn (vG w) s=none∧yM w.env.carriers w.sizes s=some v∧aI w s=v∧hasB w.env w.sizes t v=true):=by
 obtain⟨h1,h2,h3,h4⟩:=mR h;obtain⟨hf,hn⟩:=J8 h s;have un:∀t',(s,t')∈wK w.env→t'=t:=fun t' h'=>by
  have:=(Ae h1).2 h'
  grind
 unfold aI;cases hm:dn (vG w) s with
 |some v=>
  refine .inl ⟨v,rfl,rfl,?_⟩;rw[hf]at hm;rw[qY _ _ _ hn]at hm;obtain⟨q,hq,hqe⟩:=qAJ.1 hm;cases hqe;have:=un q.1.ty (by unfold wK;rw[qAr];exact .inr (qAJ.2 ⟨q.1,(qCR (show(q.1,q.2)∈w.env.names.zip w.values from hq)).1,rfl⟩))
  grind
 |none=>
  have hc:=apK w.env w.sizes h2 (anT h1) s w.env.carriers w.sizes [] [] rfl rfl rfl (Dk h2).symm;cases hv:yM w.env.carriers w.sizes s with
  |some v=>
   rw[hv]at hc;obtain⟨t',h5,h6⟩:=hc;have:=un t' (by unfold wK;rw[qAr];exact .inl h5)
   grind
  |none=>
   exfalso;rw[hv]at hc;have ht:=(Ae h1).1 ht;unfold wK at ht;rcases qAr.1 ht with ht|ht
   ·exact hc t ht
   ·obtain⟨d,hd,hde⟩:=qAJ.1 ht;cases hde;rw[hf]at hm;obtain⟨i,hi,rfl⟩:=qBy hd;have hz:(w.env.names[i],w.values[i]'(by omega))∈w.env.names.zip w.values:=by
     rw[qBF];exact⟨i,by simp;omega,by simp⟩
    have:=(qY ((w.env.names.zip w.values).map fun q=>(q.1.name,q.2)) w.env.names[i].name (w.values[i]'(by omega)) hn).2 (qAJ.2 ⟨_,hz,rfl⟩);rw[hm]at this;cases this
theorem DZ{w:S_api_World}(h:gW w=true):Xp w.env w.sizes (aI w):=fun s t ht=>by
 rcases PS h s t ht with⟨v,_,e,h1⟩|⟨v,_,_,e,h1⟩<;>rw[e]<;>exact h1
theorem aej{w:S_api_World}(h:gW w=true):LkE w.env w.env.carriers w.env.names w.sizes (vG w) (aI w):=fun s t ht b=>by
 obtain⟨h1,h2,_⟩:=mR h;unfold adY;rcases PS h s t ht with⟨v,e1,e2,_⟩|⟨v,e1,e2,e3,_⟩
 ·refine Ev.of fun n=>?_;rw[e1,e2];simp only[qAb,cond_true,alv]
 ·obtain⟨N,hN⟩:=anH w.env w.sizes h2 s w.env.carriers w.sizes [] [] rfl rfl rfl (Dk h2).symm;refine⟨N+w.env.carriers.length+1,fun n hn=>?_⟩
  grind
theorem anK{w:S_api_World}(h:gW w=true):Ev (fun n=>Mt n w) (w.env.carriers,w.env.names,w.sizes,vG w,[]):=by
 obtain⟨h1,h2,h3,h4⟩:=mR h;have hn64:=(iJ h1).2.1;have hl:(w.env.names.zip w.values).length=w.env.names.length:=by rw[qDt];omega
 have e:=wI (ρ:=(List Carrier)×(List Decl)×(List Int)×(List (Str×Val))×(List Bound)) (w.env.names.zip w.values) (fun n=>Cx n w) (fun i s=>(i,s)) (fun q s=>.nx (lJ s q.1.name q.2)) (fun s=>s) (fun suf s=>s.length+suf.length≤1000) (fun n rec s=>by
  unfold Cx;rw[hl,at_end];rfl) (fun pre q suf s e hI=>⟨⟨0,fun n hn rec=>by
  have hpl:pre.length<w.env.names.length:=by rw[←hl,e];simp
  have hg:=congrArg (fun l=>l[pre.length]?) e;simp at hg;rw[qAc (by omega),List.getElem_zip]at hg;have hg:=Option.some.inj hg;unfold Cx;rw[decide_eq_true (by simp;omega)];have i1:idx w.env.names (pre.length:Int)=some q.1:=by
   unfold idx
   grind
  have i2:idx w.values (pre.length:Int)=some q.2:=by
   unfold idx
   grind
  simp only[i1,i2,qAb];rw[LX (by omega)];rfl⟩,fun s' hs'=>by
   cases hs';have:=Dh s q.1.name q.2;simp at hI;omega⟩) (s0:=[]) (by simp;omega)
 rw[Jg (ρ:=(List Carrier)×(List Decl)×(List Int)×(List (Str×Val))×(List Bound)) (fun(s:List (Str×Val)) (q:Decl×Val)=>lJ s q.1.name q.2)]at e;have e2:(w.env.names.zip w.values).foldl (fun(s:List (Str×Val)) (q:Decl×Val)=>lJ s q.1.name q.2) []=vG w:=by
  unfold vG gI;rw[List.foldl_map]
 rw[e2]at e;exact Ev.bind e (Ev.ret _)
end
section
open Go
theorem acn{env:Env}{sz:List Int}{t:Ty}(h:Good t):∀v,hasB env sz t v=true→pY v:=by
 have leaf:∀v:Val,v.kids=[]→pY v:=fun v e=>by
  obtain⟨k,n,s,ks⟩:=v;subst e;simp[pY,F5]
 have all:∀l:List Val,(∀v∈l,pY v)→F5 l:=by
  intro l
  induction l with
  |nil=>intro _;simp[F5]
  |cons a l ih=>intro h;exact⟨h a (by simp),ih fun v hv=>h v (by simp[hv])⟩
 induction h with
 |int=>intro v h;obtain⟨n,rfl,_⟩:=sG.1 h;exact leaf _ rfl
 |car nm=>
  intro v h;rw[show hasB env sz (nD nm) v=OD env sz nm v by unfold nD hasB;rfl]at h;unfold OD at h
  simp_all
 |pair ha hb iha ihb=>
  intro v h;obtain⟨x,y,rfl,h1,h2⟩:=qJ.1 h;exact⟨by simp,all _ (by simp only[qAh,qCm,or_false];rintro v (rfl|rfl);exact iha _ h1;exact ihb _ h2)⟩
 |set ha ih=>
  intro v h;obtain⟨l,rfl,h1,h2⟩:=iV.1 h;exact⟨by have:=h1.2;omega,all l fun v hv=>ih v (h2 v hv)⟩
theorem Sb{env:Env}{sz:List Int}{t:Ty}(h:Top t)(v:Val)(hv:hasB env sz t v=true):pY v:=by
 rcases h with rfl|h
 ·obtain⟨b,rfl⟩:=Aa.1 hv;cases b<;>simp[aO,pY,F5]
 ·exact acn h v hv
theorem aAc{cs:List Carrier}{ds:List Decl}{sz:List Int}{m:List (Str×Val)}{g:Str→Val}{t:Tm}(h:nK cs ds sz m g t []):Ev (fun n=>rW n cs ds sz m [] t) (match aj g t []with| .ok v=>(v,0,[])| .er e=>(v0,e,[])):=by
 unfold nK at h;cases hr:aj g t []with
 |ok v=>rw[hr]at h;exact Ev.bind h (Ev.ret _)
 |er e=>
  rw[hr]at h;obtain⟨he,z,hz⟩:=h;refine Ev.bind hz (Ev.of fun n=>?_);have e1:(decide ((0:Int)≤e)&&decide (e≤1000))=true:=by rcases he with rfl|rfl<;>rfl
  simp only[PZ.el,e1];unfold FJ;rfl
def l9(w:S_api_World)(t:Tm):Val×Int:=match aj (aI w) t []with| .ok v=>(v,0)| .er e=>(v0,e)
def ig(w:S_api_World)(t:Tm):Val×Int:=cond (gW w&&cO t) (cond ((bT w.env t).2.2 !=0) (v0,(bT w.env t).2.2) (l9 w t)) (v0,1)
theorem Dt{w:S_api_World}{t:Tm}(hw:gW w=true)(hv:cO t=true)(h:(bT w.env t).2.2=0):∃ty,(bT w.env t).1=ty∧Top ty∧HT w.env [] t ty∧bX w.env [] t=.ok ty:=by
 obtain⟨h1,_⟩:=mR hw;unfold bT at h⊢;rw[h1,hv]at h⊢;cases ht:bX w.env [] t with
 |er e p=>rw[ht]at h;exact absurd h (IG t [] e p ht)
 |ok ty=>exact⟨ty,rfl,sV h1 wR ht,apj h1 t 1 [] ty (sP hv) wR ht,rfl⟩
theorem arq{w:S_api_World}{t:Tm}{ty:Ty}(hw:gW w=true)(hv:cO t=true)(ht:HT w.env [] t ty):nK w.env.carriers w.env.names w.sizes (vG w) (aI w) t []:=
 (aek (DZ hw) (aej hw) t).1 1 [] ty [] (sP hv) ht .nil (by simp)
theorem Qt{w:S_api_World}{t:Tm}{ty:Ty}{v:Val}(hw:gW w=true)(ht:HT w.env [] t ty)(h:aj (aI w) t []=.ok v):hasB w.env w.sizes ty v=true:=sound (DZ hw) t [] ty [] v ht .nil h
theorem H7(w:S_api_World)(t:Tm)(hs:FQ w.env)(hS:iN t):Ev (fun n=>mU n w t) (ig w t):=by
 unfold mU ig;refine Ev.bind (a:=!(gW w&&cO t)) ?_ ?_
 ·refine Ev.bind (Zw w hs) ?_;cases gW w with
  |false=>exact Ev.ret _
  |true=>exact Ev.bind (OB t hS) (Ev.ret _)
 ·cases hq:(gW w&&cO t)with
  |false=>exact Ev.ret _
  |true=>
   rw[qAa]at hq;refine Ev.bind (QD w.env t hs hS) ?_;cases he:((bT w.env t).2.2 !=0)with
   |true=>exact Ev.ret _
   |false=>
    obtain⟨ty,h1,h2,h3,_⟩:=Dt hq.1 hq.2 (by simpa using he);refine Ev.bind (anK hq.1) (Ev.bind (aAc (arq hq.1 hq.2 h3)) ?_);unfold l9;cases hr:aj (aI w) t []with
    |ok v=>exact Ev.bind (adp v (Sb h2 v (Qt hq.1 h3 hr))) (Ev.ret _)
    |er e=>exact Ev.bind (adp v0 (by simp[v0,pY,F5])) (Ev.ret _)
end
section
open Go
theorem Q7(env:Env):∃b,Ev (fun n=>Ah n env) b:=by
 refine⟨decide ((env.carriers.length:Int)≤100)&&decide ((env.names.length:Int)≤100),Ev.of fun n=>?_⟩;unfold Ah
 grind
theorem nL:Ev (fun n=>(jf n).bind fun x=>some x) true:=Ev.bind (a:=true) (Ev.ret _) (Ev.ret _)
theorem Iu(a b:Val):Ev (fun n=>dB n a b) (eD a b):=acB a b
theorem zo(a b:Val):eD a b=true↔a=b:=by unfold eD;rw[beq_iff_eq,gF]
end
section
open Go
end
section
open Go
theorem Wx{env:Env}{t:Ty}:knows env (au t)=knows env t:=by simp[knows,au,dX,jG]
theorem adI{env:Env}{s t:Ty}:knows env (aR s t)=(knows env s&&knows env t):=by simp[knows,aR,dX,jG]
end
section
open Go
mutual
theorem awh:∀(t:Ty) (d c d' e:Int),(pf t d c).1=true→d'≤d→(pf t d c).2+e≤16→(pf t d' (c+e)).1=true∧(pf t d' (c+e)).2=(pf t d c).2+e
 | .mk k nm ks,d,c,d',e,h,hd,he=>by
  simp only[pf]at h he⊢;cases hb:((decide (c+1≤16)&&decide (d≤6))&&fT k nm ks.length d)with
  |false=>rw[hb]at h;cases h
  |true=>
   rw[hb]at h he;simp only[cond_true]at h he;have h1:=abd ks (d+1) (c+1) h;obtain⟨q1,q2⟩:=aAO ks (d+1) (c+1) (d'+1) e h (by omega) he;have hc:((decide (c+e+1≤16)&&decide (d'≤6))&&fT k nm ks.length d')=true:=by
    simp only[qAa,decide_eq_true_eq,fT,qAV,qDB,decide_eq_false_iff_not]at hb⊢;refine⟨⟨by omega,by omega⟩,?_,hb.2.2⟩;rcases hb.2.1 with h2|h2
    ·exact .inl h2
    ·exact .inr (by omega)
   rw[hc,show c+e+1=c+1+e by omega];exact⟨q1,q2⟩
theorem aAO:∀(ts:List Ty) (d c d' e:Int),(kK ts d c).1=true→d'≤d→(kK ts d c).2+e≤16→(kK ts d' (c+e)).1=true∧(kK ts d' (c+e)).2=(kK ts d c).2+e
 |[],d,c,d',e,h,_,he=>⟨rfl,rfl⟩
 |t::ts,d,c,d',e,h,hd,he=>by
  simp only[kK]at h he⊢;cases hb:(pf t d c).1 with
  |false=>rw[hb]at h;cases h
  |true=>
   rw[hb]at h he;simp only[cond_true]at h he;have h2:=abd ts d _ h;obtain⟨q1,q2⟩:=awh t d c d' e hb hd (by omega);rw[q1,q2];exact aAO ts d _ d' e h hd he
end
theorem ajn(t:Ty)(d c d' c':Int)(h:(pf t d c).1=true)(hd:d'≤d)(hc:c'≤c):(pf t d' c').1=true∧(pf t d' c').2=(pf t d c).2+(c' - c):=by
 have hl:=Gd t d c h;have:=awh t d c d' (c' - c) h hd (by omega);rwa[show c+(c' - c)=c' by omega]at this
theorem abJ{l:List Val}(h:(sortV l).length≤256):bF l=.ok (gH l):=by
 unfold bF;rw[decide_eq_false (by omega)];rfl
end
section
open Go
section
variable {env:Env}{sz:List Int}{T T':Val→Val}
end
end
section
open Go
section
variable {env:Env}{sz:List Int}{T T':Val→Val}
end
end
section
open Go
section
variable {env:Env}{sz:List Int}{T T':Val→Val}{g g':Str→Val}
end
end
section
open Go
section
variable {env:Env}{sz:List Int}{c:Str}{pm pm':List Int}{m:Nat}
theorem aeo{nm:Str}{v:Val}:hasB env sz (nD nm) v=true↔∃n,v=.mk 3 n nm []∧0≤n∧n<He env sz nm:=by
 rw[show hasB env sz (nD nm) v=OD env sz nm v by unfold nD hasB;rfl];obtain⟨k,n,s,ks⟩:=v;unfold OD;simp only[Val.kind,Val.name,Val.kids,Val.n,qAa,beq_iff_eq,decide_eq_true_eq,Val.mk.injEq];constructor
 ·rintro⟨rfl,rfl,h,h0,h1⟩;exact⟨n,⟨rfl,rfl,rfl,qAD.1 (by omega)⟩,of_decide_eq_true h0,of_decide_eq_true h1⟩
 ·rintro⟨_,⟨rfl,rfl,rfl,rfl⟩,h0,h1⟩;exact⟨rfl,rfl,rfl,decide_eq_true h0,decide_eq_true h1⟩
end
end
section
open Go
abbrev G6:Ty:=.mk 0 [] []
def ar7(n:Int):Tm:=cond (decide (n<0)) (.mk 21 [] 0 G6 [.mk 19 [] (-n) G6 []]) (.mk 19 [] n G6 [])
def aBS(env:Env)(s:Str)(n:Int):RR Tm:=match idx env.carriers (dR (fun c=>c.name==s) 0 env.carriers)with
 |none=>.er 0
 |some d=>cond ((d.elems.length:Int)==0) (.er 23) (match idx d.elems n with|some e=>.ok (.mk 20 e 0 G6 [])|none=>.er 0)
mutual
def ax9(env:Env):Val→Ty→RR Tm
 | .mk k n s ks,ty=>cond (k==1) (.ok (ar7 n)) (cond (k==3) (aBS env s n) (cond (k==4) ((aw7 env ks ty.kids).thn fun l=>.ok (.mk 27 [] 0 G6 l))
  (cond ((ks.length:Int)==0) (.ok (.mk 29 [] 0 (ty.kids.headD bH) [])) ((atd env ks (ty.kids.headD bH)).thn fun l=>.ok (.mk 28 [] 0 G6 l)))))
def aw7(env:Env):List Val→List Ty→RR (List Tm)
 |[],_=>.ok []
 |v::vs,ts=>(ax9 env v (ts.headD bH)).thn fun t=>(aw7 env vs (ts.drop 1)).thn fun l=>.ok (t::l)
def atd(env:Env):List Val→Ty→RR (List Tm)
 |[],_=>.ok []
 |v::vs,ty=>(ax9 env v ty).thn fun t=>(atd env vs ty).thn fun l=>.ok (t::l)
end
def aM8(env:Env):List Int:=env.carriers.map fun c=>cond (decide (0<(c.elems.length:Int))) (c.elems.length:Int) 8
theorem Zq{β γ:Type}{r:RR β}{f:β→RR γ}{v:γ}(h:r.thn f=.ok v):∃a,r=.ok a∧f a=.ok v:=by
 cases r with
 |ok a=>exact⟨a,rfl,h⟩
 |er e=>cases h
theorem aFi:∀(l:List Str) (n:Nat) (h:n<l.length),l.Nodup→dR (fun e=>l[n]==e) 0 l=n:=fun l n h hn=>by
 have e:=qDw n l;have e2:l=l.take n++l[n]::l.drop (n+1):=by rw[←List.drop_eq_getElem_cons h,e]
 have k:∀(q:List Str) (c:Str) (r:List Str) (i:Int),(∀d∈q,(c==d)=false)→dR (fun e=>c==e) i (q++c::r)=i+q.length:=by
  intro q c r
  induction q with
  |nil=>intro i _;simp[dR]
  |cons d q ih=>
   intro i h;rw[qAM,dR,h d (by simp),cond_false,ih _ fun x hx=>h x (by simp[hx])];simp;omega
 have hd:∀d∈l.take n,(l[n]==d)=false:=fun d hd=>by
  rw[e2,qDe]at hn;exact beq_eq_false_iff_ne.2 fun e=>hn.2.2 d hd l[n] qBB e.symm
 have:=k (l.take n) l[n] (l.drop (n+1)) 0 hd;rw[←e2]at this;rw[this,qAz];omega
theorem auZ{d:Carrier}{n:Nat}(hn:n<d.elems.length)(hd:d.elems.Nodup):∀(cs:List Carrier) (zs:List Int),cs.length=zs.length→d∈cs→(cs.flatMap (·.elems)).Nodup→(∀c∈cs,c.name≠d.elems[n])→yM cs zs d.elems[n]=some (.mk 3 n d.name [])
 |[],_,_,h,_,_=>by cases h
 |c::cs,[],h,_,_,_=>by simp at h
 |c::cs,z::zs,hl,hm,hnd,hne=>by
  rw[qBf,qDe]at hnd;unfold yM;rw[show(c.name==d.elems[n])=false by simpa using hne c (by simp),cond_false];by_cases hc:c=d
  ·subst hc;rw[aFi c.elems n hn hd];rfl
  ·have hm:d∈cs:=(qAh.1 hm).resolve_left fun e=>hc e.symm;have hno:∀x∈c.elems,x≠d.elems[n]:=fun x hx e=>hnd.2.2 x hx x (qBx.2 ⟨d,hm,by rw[e];exact qAO hn⟩) rfl;have hf:=mO (fun e=>d.elems[n]==e) c.elems 0 (qBD _);have:c.elems.any (fun e=>d.elems[n]==e)=false:=by
    rw[qDP];intro x hx;exact fun e=>hno x hx (eq_of_beq e).symm
   rw[this]at hf;rw[hf,cond_false];exact auZ hn hd cs zs (by simpa using hl) hm hnd.2.1 fun x hx=>hne x (by simp[hx])
theorem azH{w:S_api_World}(hw:gW w=true){d:Carrier}(hd:d∈w.env.carriers){n:Nat}(hn:n<d.elems.length):aI w d.elems[n]=.mk 3 n d.name []:=by
 obtain⟨h1,h2,h3,h4⟩:=mR hw;have nd:=(iJ h1).2.2.2.2;unfold names2 at nd;rw[qDe,qDe]at nd;have he:d.elems[n]∈w.env.carriers.flatMap (·.elems):=qBx.2 ⟨d,hd,qAO hn⟩;have hmn:dn (vG w) d.elems[n]=none:=by
  obtain⟨hf,hk⟩:=J8 hw d.elems[n];cases hm:dn (vG w) d.elems[n]with
  |none=>rfl
  |some v=>
   exfalso;rw[hf,qY _ _ _ hk]at hm;obtain⟨q,hq,e⟩:=qAJ.1 hm;have hq:=(qCR (show(q.1,q.2)∈w.env.names.zip w.values from hq)).1;have e:q.1.name=d.elems[n]:=congrArg Prod.fst e;exact nd.2.1.2.2 _ he q.1.name (qAJ.2 ⟨q.1,hq,rfl⟩) e.symm
 unfold aI;rw[hmn];show(yM w.env.carriers w.sizes d.elems[n]).getD v0=_;have hdn:d.elems.Nodup:=by
  obtain⟨p,q,e⟩:=List.append_of_mem hd;have:=nd.2.1.1;rw[e,List.flatMap_append,qBf,qDe,qDe]at this;exact this.2.1.1
 rw[auZ hn hdn w.env.carriers w.sizes (Dk h2).symm hd nd.2.1.1 fun c hc e=>nd.2.2 c.name (qAJ.2 ⟨c,hc,rfl⟩) d.elems[n] (qAr.2 (.inl he)) e];rfl
theorem awl{a b:Ty}(h:bA (aR a b)=true):bA a=true∧bA b=true:=by
 unfold bA at *;have h':(pf (.mk 4 [] [a,b]) 1 0).1=true:=h;simp only[pf,kK]at h';rw[show((decide ((0:Int)+1≤16)&&decide ((1:Int)≤6))&&fT 4 [] [a,b].length 1)=true from rfl,cond_true]at h';cases ha:(pf a (1+1) (0+1)).1 with
 |false=>rw[ha]at h';cases h'
 |true=>
  rw[ha]at h';simp only[cond_true]at h';cases hb:(pf b (1+1) (pf a (1+1) (0+1)).2).1 with
  |false=>rw[hb]at h';cases h'
  |true=>
   have l1:=Gd a _ _ ha;have l2:=Gd b _ _ hb;exact⟨(ajn a _ _ 1 0 ha (by omega) (by omega)).1,(ajn b _ _ 1 0 hb (by omega) (by omega)).1⟩
theorem az1{a:Ty}(h:bA (au a)=true):bA a=true:=by
 unfold bA at *;have h':(pf (.mk 5 [] [a]) 1 0).1=true:=h;simp only[pf,kK]at h';rw[show((decide ((0:Int)+1≤16)&&decide ((1:Int)≤6))&&fT 5 [] [a].length 1)=true from rfl,cond_true]at h';cases ha:(pf a (1+1) (0+1)).1 with
 |false=>rw[ha]at h';cases h'
 |true=>exact(ajn a _ _ 1 0 ha (by omega) (by omega)).1
theorem an7{env:Env}{nm:Str}{u:Ty}:∀(ks:List Tm) (i:Int),(∀t∈ks,bX env [] t=.ok u)→bV env [] false nm i ks=.ok (List.replicate ks.length u)
 |[],_,_=>rfl
 |t::ks,i,h=>by
  simp only[bV,h t (by simp)];show(match bV env [] false nm (i+1) ks with| .er e p=>KR.er e p| .ok l=>.ok (u::l))=_
  rw[an7 ks (i+1) fun x hx=>h x (by simp[hx])];rfl
theorem aHY{env:Env}{a b:Tm}{t u:Ty}(ha:bX env [] a=.ok t)(hb:bX env [] b=.ok u)(gt:Good t)(gu:Good u)(hv:bA (aR t u)=true):bX env [] (.mk 27 [] 0 G6 [a,b])=.ok (aR t u):=by
 have e:bV env [] false [] 0 [a,b]=.ok [t,u]:=by simp only[bV,ha,qc,cond_false,hb]
 unfold bX;show(match bV env [] false [] 0 [a,b]with| .er e p=>TR.er e p| .ok l=>rJ (jT 27 l))=_
 rw[e];show rJ (jT 27 [t,u])=_;have:jT 27 [t,u]=some (aR t u):=by
  show bW (t.kind !=2&&u.kind !=2) (aR t u)=_;rw[bne,bne,Na gt,Na gu];rfl
 rw[this];show cond (bA _) _ _=_;rw[hv];rfl
theorem aHs{env:Env}{ks:List Tm}{t:Ty}(hk:∀x∈ks,bX env [] x=.ok t)(hn:ks≠[])(gt:Good t)(hv:bA (au t)=true):bX env [] (.mk 28 [] 0 G6 ks)=.ok (au t):=by
 unfold bX;show(match bV env [] false [] 0 ks with| .er e p=>TR.er e p| .ok l=>rJ (jT 28 l))=_
 rw[an7 ks 0 hk];show rJ (jT 28 (List.replicate ks.length t))=_;have:jT 28 (List.replicate ks.length t)=some (au t):=by
  show bW (((List.replicate ks.length t).headD bH).kind !=2&&(List.replicate ks.length t).all fun x=>dI x ((List.replicate ks.length t).headD bH)) (au ((List.replicate ks.length t).headD bH))=_;obtain⟨m,hm⟩:∃m,ks.length=m+1:=⟨ks.length - 1,by have:=qCn.2 hn;omega⟩;rw[hm,show(List.replicate (m+1) t).headD bH=t from rfl,bne,Na gt,show((List.replicate (m+1) t).all fun x=>dI x t)=true from qAP.2 fun x hx=>by rw[(List.mem_replicate.1 hx).2];exact Ux t];rfl
 rw[this];show cond (bA _) _ _=_;rw[hv];rfl
theorem aD8{env:Env}{n:Int}:bX env [] (ar7 n)=.ok fE:=by
 unfold ar7;cases decide (n<0)with
 |true=>rfl
 |false=>rfl
theorem awd{env:Env}{ty:Ty}:∀(vs:List Val) (l:List Tm),atd env vs ty=.ok l→l.length=vs.length∧∀p∈vs.zip l,ax9 env p.1 ty=.ok p.2
 |[],l,h=>by cases h;simp
 |v::vs,l,h=>by
  simp only[atd]at h;obtain⟨t,h1,h⟩:=Zq h;obtain⟨m,h2,h⟩:=Zq h;cases h;obtain⟨h3,h4⟩:=awd vs m h2;refine⟨by simp[h3],fun p hp=>?_⟩;rw[qDT]at hp;rcases qAh.1 hp with rfl|hp
  ·exact h1
  ·exact h4 p hp
theorem avF{g:Str→Val}:∀(ks:List Tm) (vs:List Val),ks.length=vs.length→(∀p∈vs.zip ks,aj g p.2 []=.ok p.1)→aN (ks.map fun k=>aj g k [])=.ok vs
 |[],[],_,_=>rfl
 |[],_::_,h,_=>by simp at h
 |_::_,[],h,_=>by simp at h
 |k::ks,v::vs,h,hp=>by
  rw[qAy,hp (v,k) (by simp)];unfold aN;rw[avF ks vs (by simpa using h) fun p hq=>hp p (by simp[hq])]
theorem aH2{env:Env}{s:Str}{d:Carrier}(h:idx env.carriers (dR (fun c=>c.name==s) 0 env.carriers)=some d):d∈env.carriers∧d.name=s:=by
 unfold idx at h;split at h
 ·rename_i h0;have hm:=qAF h;refine⟨hm,?_⟩;rcases Dw (fun c:Carrier=>c.name==s) env.carriers []with⟨x,_,h1,_,h2⟩|⟨_,h2⟩
  ·simp only[qAA,qAo]at h2;rw[show(((0:Nat):Int))=0 from rfl]at h2;unfold idx at h2;rw[if_pos h0,h]at h2;cases h2;simpa using h1
  ·simp only[qAA]at h2;rw[show(((0:Nat):Int))=0 from rfl]at h2;omega
 ·cases h
theorem aMj{w:S_api_World}(hw:gW w=true){sz:List Int}{ty:Ty}(hg:Good ty):∀(v:Val) (t:Tm),hasB w.env sz ty v=true→bA ty=true→knows w.env ty=true→ax9 w.env v ty=.ok t→bX w.env [] t=.ok ty∧aj (aI w) t []=.ok v:=by
 obtain⟨hv,_,_,_⟩:=mR hw
 induction hg with
 |int=>
  intro v t h _ _ hl;obtain⟨n,rfl,hn⟩:=sG.1 h;have hl:(.ok (ar7 n):RR Tm)=.ok t:=hl;cases hl;refine⟨aD8,?_⟩;have hn: -1000000000≤n∧n≤1000000000:=hn;have I:∀k:Int, -1000000000≤k→k≤1000000000→gM k=.ok (iY k):=fun k k1 k2=>by
   unfold gM ab1;rw[decide_eq_false (by omega),decide_eq_false (by omega)];rfl
  unfold ar7;by_cases h0:n<0
  ·rw[decide_eq_true h0];show aj (aI w) (.mk 21 [] 0 G6 [.mk 19 [] (-n) G6 []]) []=_;rw[bG];show(aN [aj (aI w) (.mk 19 [] (-n) G6 []) []]).thn (bB 21)=_;rw[bG];show(aN [gM (-n)]).thn (bB 21)=_;rw[I (-n) (by omega) (by omega)];show gM (-(-n))=_;rw[Int.neg_neg];exact I n (by omega) (by omega)
  ·rw[decide_eq_false h0];show aj (aI w) (.mk 19 [] n G6 []) []=_;rw[bG];exact I n (by omega) (by omega)
 |car nm=>
  intro v t h _ _ hl;obtain⟨n,rfl,h0,h1⟩:=aeo.1 h;have hl:aBS w.env nm n=.ok t:=hl;unfold aBS at hl;cases hi:idx w.env.carriers (dR (fun c=>c.name==nm) 0 w.env.carriers)with
  |none=>rw[hi]at hl;cases hl
  |some d=>
   rw[hi]at hl;have hq:cond ((d.elems.length:Int)==0) (.er 23) (match idx d.elems n with|some e=>.ok (.mk 20 e 0 G6 [])|none=>.er 0)=(.ok t:RR Tm):=hl
   clear hl;obtain⟨hd,rfl⟩:=aH2 hi;cases hz:((d.elems.length:Int)==0)with
   |true=>rw[hz]at hq;cases hq
   |false=>
    rw[hz]at hq;cases he:idx d.elems n with
    |none=>rw[he]at hq;cases hq
    |some e=>
     rw[he]at hq;cases hq;unfold idx at he;rw[if_pos h0]at he;obtain⟨hlt,rfl⟩:=qAH.1 he;constructor
     ·simp only[bX];show(match nJ w.env [] _ with|some t=>TR.ok t|none=>.er 6 [])=_
      have:nJ w.env [] d.elems[n.toNat]=some (nD d.name):=(Ae hv).2 (qAr.2 (.inl (qBx.2 ⟨d,hd,qAk _ (qAJ.2 ⟨_,qAO hlt,rfl⟩)⟩)));rw[this]
     ·rw[bG];show(.ok (aI w d.elems[n.toNat]):VR)=_;rw[azH hw hd hlt,Int.toNat_of_nonneg h0]
 |pair ha hb iha ihb=>
  intro v t h hvt hk hl;obtain⟨x,y,rfl,h1,h2⟩:=qJ.1 h;rename_i a b;have hl:((aw7 w.env [x,y] [a,b]).thn fun l=>.ok (.mk 27 [] 0 G6 l))=.ok t:=hl;obtain⟨l,hl,e⟩:=Zq hl;simp only[aw7]at hl;obtain⟨tx,q1,hl⟩:=Zq hl;obtain⟨l2,hl2,hl⟩:=Zq hl;obtain⟨ty',q2,hl2⟩:=Zq hl2;cases hl2;cases hl;cases e;rw[adI,qAa]at hk;obtain⟨va,vb⟩:=awl hvt;obtain⟨r1,r2⟩:=iha x tx h1 va hk.1 q1;obtain⟨r3,r4⟩:=ihb y ty' h2 vb hk.2 q2;refine⟨aHY r1 r3 ha hb hvt,?_⟩;rw[bG];show(aN [aj (aI w) tx [],aj (aI w) ty' []]).thn (bB 27)=_;rw[r2,r4];rfl
 |set ha ih=>
  intro v t h hvt hk hl;rename_i a;obtain⟨l,rfl,h1,h2⟩:=iV.1 h;rw[Wx]at hk;have va:=az1 hvt;have hl:cond ((l.length:Int)==0) (.ok (.mk 29 [] 0 a [])) ((atd w.env l a).thn fun m=>.ok (.mk 28 [] 0 G6 m))=.ok t:=hl;cases hz:((l.length:Int)==0)with
  |true=>
   rw[hz]at hl;cases hl;have:l=[]:=qAD.1 (by have:=beq_iff_eq.1 hz;omega);subst this;constructor
   ·unfold bX;show cond (true&&!(knows w.env a)) (TR.er 6 []) (match bV w.env [] (bY 29) [] 0 []with| .er e p=>.er e p| .ok l=>rJ (some (au a)))=_
    rw[hk];show cond (bA _) _ _=_;rw[hvt];rfl
   ·rw[bG];rfl
  |false=>
   rw[hz]at hl;obtain⟨m,hm,e⟩:=Zq hl;cases e;obtain⟨k1,k2⟩:=awd l m hm;have hne:m≠[]:=fun e=>by
    subst e;have:l.length=0:=by simpa using k1.symm
    rw[this]at hz;cases hz
   have key:∀p∈l.zip m,bX w.env [] p.2=.ok a∧aj (aI w) p.2 []=.ok p.1:=fun p hp=>ih p.1 p.2 (h2 p.1 (qCR (show(p.1,p.2)∈l.zip m from hp)).1) va hk (k2 p hp);constructor
   ·refine aHs (fun x hx=>?_) hne ha hvt;obtain⟨i,hi,rfl⟩:=qBy hx;have hp:(l[i]'(by omega),m[i])∈l.zip m:=by
     rw[qBF];exact⟨i,by simp;omega,by simp⟩
    exact(key _ hp).1
   ·rw[bG];show(aN ((m.map (nu (aI w))).map fun k=>k.f [])).thn bF=_;rw[qBh];rw[show aN (m.map ((fun k=>k.f [])∘nu (aI w)))=.ok l from avF m l k1 fun p hp=>(key p hp).2];show bF l=_;rw[abJ (by rw[jY h1.1];exact h1.2)];unfold gH;rw[jY h1.1]
end
section
open Go
theorem set_mid{α:Type}:∀(pre:List α) (x y:α) (suf:List α),(pre++x::suf).set pre.length y=pre++y::suf
 |[],_,_,_=>rfl
 |p::pre,x,y,suf=>by simp[set_mid pre x y suf]
theorem loopMap{α ρ:Type}(l:List α)(f:α→α)(B:Nat→(Int×List α→Option (LR (List α) ρ))→Int×List α→Option (LR (List α) ρ))(step:Nat→α→Option α)
  (hB:∀n rec i s,s.length=l.length→B n rec (i,s)=cond (decide (i<(l.length:Int))) ((idx s i).bind fun x=>(step n x).bind fun y=>rec (i+1,upd s i y)) (some (.nx s)))
  (hs:∀x∈l,Ev (fun n=>step n x) (f x)):Ev (fun n=>aL (B n) n (0,l)) (.nx (l.map f)):=by
 have key:∀(suf pre q:List α),l=q++suf→pre.length=q.length→∃N,∀n,N≤n→∀k,suf.length+1≤k→aL (B n) k ((pre.length:Int),pre++suf)=some (.nx (pre++suf.map f)):=by
  intro suf
  induction suf with
  |nil=>
   intro pre q hp hq;refine⟨0,fun n _ k hk=>?_⟩;obtain⟨j,rfl⟩:∃j,k=j+1:=⟨k - 1,by simp at hk;omega⟩;show B n (aL (B n) j) _=_;rw[hB _ _ _ _ (by rw[hp];simp[hq]),decide_eq_false (by rw[hp];simp[hq])];rfl
  |cons a suf ih=>
   intro pre q hp hq;obtain⟨N1,h1⟩:=hs a (by rw[hp];simp);obtain⟨N2,h2⟩:=ih (pre++[f a]) (q++[a]) (by rw[hp];simp) (by simp[hq]);refine⟨N1+N2,fun n hn k hk=>?_⟩;obtain⟨j,rfl⟩:∃j,k=j+1:=⟨k - 1,by simp at hk;omega⟩;have h1:step n a=_:=h1 n (by omega);have h2:=h2 n (by omega) j (by simp at hk;omega);show B n (aL (B n) j) _=_;rw[hB _ _ _ _ (by rw[hp];simp[hq]),decide_eq_true (by rw[hp];simp[hq];omega)];simp only[cond_true,gJ,qAb,h1];have e:upd (pre++a::suf) (pre.length:Int) (f a)=pre++f a::suf:=by
    unfold upd;rw[qBM,set_mid]
   rw[e,show(pre.length:Int)+1=((pre++[f a]).length:Int) by simp];simpa using h2
 obtain⟨N,h⟩:=key l [] [] rfl rfl;exact⟨N+l.length+1,fun n hn=>h n (by omega) n (by omega)⟩
theorem copyTypeE_ev:∀t:Ty,H9 t=true→Ev (fun n=>eval_copyType n t) t:=Ty.ind fun k nm ks ih hok=>by
 refine Ev.succ ?_;show Ev (fun n=>eval_copyType_body n (eval_copyType n) (.mk k nm ks)) _;unfold eval_copyType_body slices_Clone_Type slices_Clip_Type;simp only[H9,qAa,decide_eq_true_eq]at hok;simp only[Ty.kind,Ty.name,Ty.kids];rw[qh (by simp only[qAA];omega) (by omega)];refine Ev.bind (Ev.ret _) (Ev.bind (Ev.ret _) ?_);have h:=loopMap (ρ:=Ty) ks id (fun n=>eval_copyType_L0B n (eval_copyType n) ks) (fun n x=>eval_copyType n x)
  (fun n rec i s _=>by
   unfold eval_copyType_L0B;cases idx s i with
   |none=>rfl
   |some x=>simp only[qAb])
  (fun x hx=>ih x hx (QC hok.2 x hx))
 rw[List.map_id]at h;exact Ev.bind h (Ev.ret _)
end
end Abs
end Go.Proofs.YthgdaonechbgmaaGreat

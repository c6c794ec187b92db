/-
  The evaluator comes to the plain value of a term: memberships, operators, all terms. Conditions: the term has a type, names have values of their types; lemmas without a program.
-/
import Derived.Test.YtneeginmfjageaaGreatCP52ox09a52c
set_option linter.unusedSimpArgs false
set_option linter.unusedVariables false
namespace Go.Proofs.YtneeginmfjageaaGreat
namespace Abs
section
open Go
section
variable {cs:List Carrier}{ds:List Decl}{sz:List Int}{m:List (Str×Val)}{g:Str→Val}
abbrev LSt:Type:=Int×Int×Int×Str×List Val×Int×Int×Str×List Val×List Bound
def Jl(cs:List Carrier)(ds:List Decl)(sz:List Int)(m:List (Str×Val))(t:Tm)(n:Nat):=eY n (bf n) (bg n) (bq n) (bP n) (bW n) (aH n) (bQ n) cs ds sz m t
def Jy(cs:List Carrier)(ds:List Decl)(sz:List Int)(m:List (Str×Val))(t:Tm)(n k:Nat):=aG (Jl cs ds sz m t n) k
theorem Pb(t:Tm)(n k:Nat)(s:LSt):Jy cs ds sz m t n (k+1) s=Jl cs ds sz m t n (Jy cs ds sz m t n k) s:=rfl
abbrev am6(op:Int)(n:Nat):LR (Int×Int×Str×(List Val)×Int×Int×Str×(List Val)×(List Bound)) (PZ (Val×(List Bound)) (List Bound))→Option (PZ (Val×(List Bound)) (List Bound)):=LR.el (fun(s8:Int×Int×Str×(List Val)×Int×Int×Str×(List Val)×(List Bound))=>((nK n op (Val.mk s8.1 s8.2.1 s8.2.2.1 s8.2.2.2.1) (Val.mk s8.2.2.2.2.1 s8.2.2.2.2.2.1 s8.2.2.2.2.2.2.1 s8.2.2.2.2.2.2.2.1)).bind (PZ.el (fun(x34:Val)=>some (.ok (x34,s8.2.2.2.2.2.2.2.2))) (fun(e15:Int) _=>some (.er e15 s8.2.2.2.2.2.2.2.2))))) (fun r=>some r)
theorem ail(v:Val):Val.mk v.kind v.n v.name v.kids=v:=by cases v;rfl
theorem aDg{op:Int}{nm:Str}{k:Int}{u:Ty}{x:Tm}{bs:List Bound}(hop:(op==28)=false)(hx:lq cs ds sz m g x bs)(hA:∀a,aI g x bs=.ok a→Ev (fun n=>nK n op a v0) (pz (DY op a v0))):
  dz (vb bs.reverse) (fun n=>(Jy cs ds sz m (.mk op nm k u [x]) n n (0,0,0,([]:Str),([]:List Val),0,0,([]:Str),([]:List Val),bs.reverse)).bind (am6 op n)) bs.reverse ((gD [aI g x bs]).thn (gX op)):=by
 unfold lq at hx;cases hr:aI g x bs with
 | er e=>
  rw[hr] at hx;obtain⟨he,z,N,hz⟩:=hx;refine⟨he,z,N+2,fun n hn=>?_⟩;have hz:aH n cs ds sz m bs.reverse x=_:=hz n (by omega);obtain⟨j,rfl⟩:∃j,n=j+2:=⟨n - 2,by omega⟩;dsimp only;rw[Pb];unfold Jl eY;simp only[Tm.kids,show idx [x] 0=some x from rfl,qAb,hz]<;>rfl
 | ok a=>
  rw[hr] at hx;obtain⟨N,h1⟩:=hx;have hA:=hA a hr;have e:(gD [(.ok a:VR)]).thn (gX op)=DY op a v0:=by
   unfold gX;rw[hop];rfl
  rw[e];refine dz.mono (f:=fun n=>(nK n op a v0).bind (PZ.el (fun(x34:Val)=>some (.ok (x34,bs.reverse))) (fun(e15:Int) _=>some (.er e15 bs.reverse)))) (fun v hv=>?_) (dz.pure hA (Er.apply op a v0));obtain⟨M,hM⟩:=hv;refine⟨N+M+2,fun n hn=>?_⟩;rw[←hM n (by omega)];have h1:aH n cs ds sz m bs.reverse x=_:=h1 n (by omega);have hj:n=(n - 2)+1+1:=by omega
  have hl:Jy cs ds sz m (.mk op nm k u [x]) n n (0,0,0,([]:Str),([]:List Val),0,0,([]:Str),([]:List Val),bs.reverse)=some (.nx (a.kind,a.n,a.name,a.kids,0,0,[],[],bs.reverse)):=by
   conv=>lhs;arg 7;rw[hj]
   rw[Pb];unfold Jl eY;simp only[Tm.kids,cond_true,show idx [x] 0=some x from rfl,qAb,h1,PZ.el,LR.el,show((0:Int)==0)=true from rfl];rw[show ∀s,Jy cs ds sz m (.mk op nm k u [x]) n (n - 2+1) s=Jl cs ds sz m (.mk op nm k u [x]) n (Jy cs ds sz m (.mk op nm k u [x]) n (n - 2)) s from fun s=>Pb _ _ _ s];rfl
  simp only[hl,qAb,am6,LR.el,ail];rfl
theorem aCF{op:Int}{nm:Str}{k:Int}{u:Ty}{x y:Tm}{bs:List Bound}(hop:(op==28)=false)(hx:lq cs ds sz m g x bs)(hy:lq cs ds sz m g y bs)(hA:∀a b,aI g x bs=.ok a→aI g y bs=.ok b→Ev (fun n=>nK n op a b) (pz (DY op a b))):
  dz (vb bs.reverse) (fun n=>(Jy cs ds sz m (.mk op nm k u [x,y]) n n (0,0,0,([]:Str),([]:List Val),0,0,([]:Str),([]:List Val),bs.reverse)).bind (am6 op n)) bs.reverse ((gD [aI g x bs,aI g y bs]).thn (gX op)):=by
 unfold lq at hx hy;have e1:decide ((0:Int)<([x,y].length:Int))=true:=rfl;have e2:decide ((0:Int)+1<([x,y].length:Int))=true:=rfl;have e3:decide ((0:Int)+1+1<([x,y].length:Int))=false:=rfl;cases hr:aI g x bs with
 | er e=>
  rw[hr] at hx;obtain⟨he,z,N,hz⟩:=hx;show dz _ _ _ (RR.er e);refine⟨he,z,N+2,fun n hn=>?_⟩;have hz:aH n cs ds sz m bs.reverse x=_:=hz n (by omega);obtain⟨j,rfl⟩:∃j,n=j+2:=⟨n - 2,by omega⟩;dsimp only;rw[Pb];unfold Jl eY;simp only[Tm.kids,e1,cond_true,show idx [x,y] 0=some x from rfl,qAb,hz,PZ.el,LR.el]<;>rfl
 | ok a=>
  rw[hr] at hx;obtain⟨N,h1⟩:=hx;cases hq:aI g y bs with
  | er e=>
   rw[hq] at hy;obtain⟨he,z,M,hz⟩:=hy;show dz _ _ _ (RR.er e);refine⟨he,z,N+M+3,fun n hn=>?_⟩;have h1:aH n cs ds sz m bs.reverse x=_:=h1 n (by omega);have hz:aH n cs ds sz m bs.reverse y=_:=hz n (by omega);have hj:n=(n - 2)+1+1:=by omega
   dsimp only;rw[show Jy cs ds sz m (.mk op nm k u [x,y]) n n (0,0,0,([]:Str),([]:List Val),0,0,([]:Str),([]:List Val),bs.reverse)=some (.rt (.er e (bs.reverse++z))) by
    conv=>lhs;arg 7;rw[hj]
    rw[Pb];unfold Jl eY;simp only[Tm.kids,e1,cond_true,show idx [x,y] 0=some x from rfl,qAb,h1,PZ.el,LR.el,vb,show((0:Int)==0)=true from rfl];rw[show ∀s,Jy cs ds sz m (.mk op nm k u [x,y]) n (n - 2+1) s=Jl cs ds sz m (.mk op nm k u [x,y]) n (Jy cs ds sz m (.mk op nm k u [x,y]) n (n - 2)) s from fun s=>Pb _ _ _ s];unfold Jl eY;simp only[Tm.kids,e2,cond_true,show idx [x,y] (0+1)=some y from rfl,qAb,hz,PZ.el,LR.el];rfl]
   rfl
  | ok b=>
   rw[hq] at hy;obtain⟨M,h2⟩:=hy;have hA:=hA a b hr hq;have e:(gD [(.ok a:VR),.ok b]).thn (gX op)=DY op a b:=by
    show gX op [a,b]=_;unfold gX;rw[hop];rfl
   rw[e];refine dz.mono (f:=fun n=>(nK n op a b).bind (PZ.el (fun(x34:Val)=>some (.ok (x34,bs.reverse))) (fun(e15:Int) _=>some (.er e15 bs.reverse)))) (fun v hv=>?_) (dz.pure hA (Er.apply op a b));obtain⟨L,hL⟩:=hv;refine⟨N+M+L+3,fun n hn=>?_⟩;rw[←hL n (by omega)];have h1:aH n cs ds sz m bs.reverse x=_:=h1 n (by omega);have h2:aH n cs ds sz m bs.reverse y=_:=h2 n (by omega);have hj:n=(n - 3)+1+1+1:=by omega
   have hs:∀j s,Jy cs ds sz m (.mk op nm k u [x,y]) n (j+1) s=Jl cs ds sz m (.mk op nm k u [x,y]) n (Jy cs ds sz m (.mk op nm k u [x,y]) n j) s:=fun j s=>Pb _ _ _ s;have hl:Jy cs ds sz m (.mk op nm k u [x,y]) n n (0,0,0,([]:Str),([]:List Val),0,0,([]:Str),([]:List Val),bs.reverse)=some (.nx (a.kind,a.n,a.name,a.kids,b.kind,b.n,b.name,b.kids,bs.reverse)):=by
    conv=>lhs;arg 7;rw[hj]
    rw[hs];unfold Jl eY;simp only[Tm.kids,e1,cond_true,show idx [x,y] 0=some x from rfl,qAb,h1,PZ.el,LR.el,vb,show((0:Int)==0)=true from rfl];rw[hs];unfold Jl eY;simp only[Tm.kids,e2,cond_true,cond_false,show idx [x,y] (0+1)=some y from rfl,qAb,h2,PZ.el,LR.el,vb,show((0:Int)+1==0)=false from rfl,show((0:Int)+1==1)=true from rfl];rw[hs];unfold Jl eY;rfl
   simp only[hl,qAb,am6,LR.el,ail]
theorem U1(n:Nat)(op:Int):xL n op=some (Aa op):=by
 unfold xL Aa
 grind
theorem asG(p:Val→Bool)(l:List Val):(((l.filter p).length:Int)==(l.length:Int))=l.all p:=by
 rw[qBw,beq_iff_eq,qAE,qDD,List.length_filter_eq_length_iff]
theorem aEz{y:Tm}{bs:List Bound}(hs:Aa y.op=false)(hy:lq cs ds sz m g y bs):dz (fun l:List Val=>((l.headD v0).kids,bs.reverse)) (fun n=>bq n cs ds sz m bs.reverse y) bs.reverse (gD [aI g y bs]):=by
 refine dz.succ ?_;show dz _ (fun n=>pq n _ _ _ _ _ (aH n) _ _ _ _ _ _ _) _ _;unfold pq;simp only[U1,hs,qAb];unfold lq at hy;cases hr:aI g y bs with
 | er e=>rw[hr] at hy;obtain⟨he,z,hz⟩:=hy;exact⟨he,z,Ev.bind hz (Ev.ret _)⟩
 | ok v=>rw[hr] at hy;exact Ev.bind hy (Ev.ret _)
theorem aEV{nm:Str}{k:Int}{u:Ty}{z:Tm}{bs:List Bound}(hz:lq cs ds sz m g z bs):dz (fun l:List Val=>((l.headD v0).kids,bs.reverse)) (fun n=>bg n cs ds sz m bs.reverse (.mk 46 nm k u [z])) bs.reverse (gD [aI g z bs]):=by
 refine dz.succ ?_;show dz _ (fun n=>o9 n _ _ _ _ _ (aH n) _ _ _ _ _ _ _) _ _;unfold o9;simp only[U1,qAb];unfold lq at hz;cases hr:aI g z bs with
 | er e=>rw[hr] at hz;obtain⟨he,w,hw⟩:=hz;exact⟨he,w,Ev.bind hw (Ev.ret _)⟩
 | ok v=>rw[hr] at hz;exact Ev.bind hz (Ev.ret _)
theorem aEx{op:Int}{nm:Str}{k:Int}{u:Ty}{z w:Tm}{bs:List Bound}(ho:op=41∨op=42∨op=43∨op=44∨op=45)(hz:lq cs ds sz m g z bs)(hw:lq cs ds sz m g w bs):
  dz (fun l:List Val=>(op,nm,k,u.kind,u.name,u.kids,[z,w],(l.headD v0).kids,((l.drop 1).headD v0).kids,bs.reverse)) (fun n=>bf n cs ds sz m bs.reverse (.mk op nm k u [z,w])) bs.reverse (gD [aI g z bs,aI g w bs]):=by
 refine dz.succ ?_;show dz _ (fun n=>pO n _ _ _ _ _ (aH n) _ _ _ _ _ _ _) _ _;unfold pO;have hs:Aa op=true∧(op==46)=false:=by rcases ho with rfl | rfl | rfl | rfl | rfl<;>exact⟨rfl,rfl⟩
 simp only[U1,Tm.op,hs.1,hs.2];have e:gD [aI g z bs,aI g w bs]=(aI g z bs).thn fun a=>(aI g w bs).thn fun b=>RR.ok [a,b]:=by
  cases aI g z bs<;>cases aI g w bs<;>rfl
 rw[e];exact dz.bind hz fun a _=>dz.bind hw fun b _=>Ev.ret _
theorem aDr{env:Env}(hg:GOk env sz g){op:Int}{sc:List Decl}{t:Ty}{y:Tm}{bs:List Bound}(ho:op=16∨op=17∨op=18)(hs:Scp env sz sc bs)(hy:HT env sc y (ak t))(hE:lq cs ds sz m g y bs)(hK:∀z∈y.kids,Aa y.op=true→lq cs ds sz m g z bs)(a:Val)
  (ha:hasB env sz (cond (op==18) (ak t) t) a=true) (la:a.kids.length≤256):
  dz (vb bs.reverse) (fun n=>cond (op==18)
    ((cond (decide (y.op<41) ||decide (46<y.op)) ((bq n cs ds sz m bs.reverse y).bind (PZ.el (fun(x21:(List Val)×(List Bound))=>((El n a.kids x21.1).bind fun(x22:List Val)=>((bB n ((x22.length:Int)==(a.kids.length:Int))).bind fun(x23:Val)=>some (.ok (x23,x21.2))))) (fun(e9:Int) z9=>some (.er e9 z9)))) (cond (y.op==46) ((bg n cs ds sz m bs.reverse y).bind (PZ.el (fun(x24:(List Val)×(List Bound))=>((D5 n a.kids x24.1).bind fun(x25:List Val)=>((bB n ((x25.length:Int)==(a.kids.length:Int))).bind fun(x26:Val)=>some (.ok (x26,x24.2))))) (fun(e10:Int) z10=>some (.er e10 z10)))) ((bf n cs ds sz m bs.reverse y).bind (PZ.el (fun(x27:Int×Str×Int×Int×Str×(List Ty)×(List Tm)×(List Val)×(List Val)×(List Bound))=>((D8 n a.kids x27.1 x27.2.1 x27.2.2.1 x27.2.2.2.1 x27.2.2.2.2.1 x27.2.2.2.2.2.1 x27.2.2.2.2.2.2.1 x27.2.2.2.2.2.2.2.1 x27.2.2.2.2.2.2.2.2.1).bind fun(x28:List Val)=>((bB n ((x28.length:Int)==(a.kids.length:Int))).bind fun(x29:Val)=>some (.ok (x29,x27.2.2.2.2.2.2.2.2.2))))) (fun(e11:Int) z11=>some (.er e11 z11)))))))
    ((cond (decide (y.op<41) ||decide (46<y.op)) ((bq n cs ds sz m bs.reverse y).bind (PZ.el (fun(x9:(List Val)×(List Bound))=>((iI n a x9.1).bind fun(x10:Bool)=>((bB n (x10==(op==16))).bind fun(x11:Val)=>some (.ok (x11,x9.2))))) (fun(e5:Int) z5=>some (.er e5 z5)))) (cond (y.op==46) ((bg n cs ds sz m bs.reverse y).bind (PZ.el (fun(x12:(List Val)×(List Bound))=>((iK n a x12.1).bind fun(x13:Bool)=>((bB n (x13==(op==16))).bind fun(x14:Val)=>some (.ok (x14,x12.2))))) (fun(e6:Int) z6=>some (.er e6 z6)))) ((bf n cs ds sz m bs.reverse y).bind (PZ.el (fun(x15:Int×Str×Int×Int×Str×(List Ty)×(List Tm)×(List Val)×(List Val)×(List Bound))=>((jS n a x15.1 x15.2.1 x15.2.2.1 x15.2.2.2.1 x15.2.2.2.2.1 x15.2.2.2.2.2.1 x15.2.2.2.2.2.2.1 x15.2.2.2.2.2.2.2.1 x15.2.2.2.2.2.2.2.2.1).bind fun(x16:Bool)=>((bB n (x16==(op==16))).bind fun(x17:Val)=>some (.ok (x17,x15.2.2.2.2.2.2.2.2.2))))) (fun(e7:Int) z7=>some (.er e7 z7))))))))
   bs.reverse (anL op (Eu g y) bs a):=by
 -- what a test makes of one value, or of a set
 have fin:∀{α:Type} {J:List Val→α} {f:Nat→Option (PZ α (List Bound))} {r:Uk} {F:Nat→α→List Val→Option (List Val)} {D:Nat→Val→α→Option Bool} {B:α→List Bound},
   dz J f bs.reverse r→(∀l,B (J l)=bs.reverse)→(∀l,r=.ok l→∀x,hasB env sz t x=true→Ev (fun n=>D n x (J l)) (uL y.op l x))→(∀l,r=.ok l→op=18→Ev (fun n=>F n (J l) a.kids) (a.kids.filter (uL y.op l)))→
   dz (vb bs.reverse) (fun n=>cond (op==18) ((f n).bind (PZ.el (fun x=>((F n x a.kids).bind fun(q:List Val)=>((bB n ((q.length:Int)==(a.kids.length:Int))).bind fun(v:Val)=>some (.ok (v,B x))))) (fun e z=>some (.er e z))))
    ((f n).bind (PZ.el (fun x=>((D n a x).bind fun(q:Bool)=>((bB n (q==(op==16))).bind fun(v:Val)=>some (.ok (v,B x))))) (fun e z=>some (.er e z))))) bs.reverse
    (r.thn fun l=>.ok (gH (cond (op==18) (a.kids.all (uL y.op l)) (uL y.op l a==(op==16))))):=by
  intro α J f r F D B hf hB hD hF;cases h18:(op==18) with
  | true=>
   refine dz.bind hf fun l hl=>?_;have h1:=hF l hl (eq_of_beq h18);show Ev _ _;rw[cond_true,←asG,show vb bs.reverse _=(gH (((a.kids.filter (uL y.op l)).length:Int)==(a.kids.length:Int)),B (J l)) by rw[hB]];exact Ev.bind h1 (Ev.bind (Bn _) (Ev.ret _))
  | false=>
   rw[h18] at ha;refine dz.bind hf fun l hl=>?_;have h1:=hD l hl a ha;show Ev _ _;rw[cond_false,show vb bs.reverse _=(gH (uL y.op l a==(op==16)),B (J l)) by rw[hB]];exact Ev.bind h1 (Ev.bind (Bn _) (Ev.ret _))
 have hkids:op=18→∀x∈a.kids,hasB env sz t x=true:=fun h=>by
  subst h;obtain⟨l,rfl,_,h2⟩:=nL.1 ha;exact h2
 have S:∀{e:Ty} {w:Val},hasB env sz (ak e) w=true→iT w.kids∧∀x∈w.kids,hasB env sz e x=true:=fun hw=>by
  obtain⟨l,rfl,h1,h2⟩:=nL.1 hw;exact⟨h1,h2⟩
 have la':a.kids.length≤1000000:=by omega
 have hsym:(decide (y.op<41) ||decide (46<y.op))=!(Aa y.op):=by
  unfold Aa
  grind
 rw[hsym];unfold anL Ll;show dz _ _ _ ((cond (Aa y.op) (gD ((y.kids.map (aI g)).map fun g=>g bs)) (gD [aI g y bs])).thn _);by_cases hsy:Aa y.op=true
 ·rw[hsy];cases hy with
  | fam q hq hz hw=>
   rename_i nm k u z w c d;have iz:=hK z (by simp[Tm.kids]) hsy;have iw:=hK w (by simp[Tm.kids]) hsy;have h46:(q==46)=false:=by rcases hq with rfl | rfl | rfl | rfl | rfl<;>rfl
   simp only[Tm.op,h46,cond_true,cond_false,qAC];have hT:∀l,gD [aI g z bs,aI g w bs]=.ok l→∃p r,l=[p,r]∧iT p.kids∧iT r.kids:=fun l hl=>by
    obtain⟨p,r,h1,h2,h3⟩:=seq2 (f:=fun l=>(RR.ok (mkSet l):VR)) (v:=mkSet l) (by rw[hl];rfl);cases h3;exact⟨p,r,rfl,(S (sound hg z sc _ bs p hz hs h1)).1,(S (sound hg w sc _ bs r hw hs h2)).1⟩
   have hD:∀l,gD [aI g z bs,aI g w bs]=.ok l→∀x,hasB env sz (ak (aK c d)) x=true→Ev (fun n=>uF n q (l.headD v0).kids ((l.drop 1).headD v0).kids x.kids) (uL q l x):=fun l hl x hx=>by
    obtain⟨p,r,rfl,h1,h2⟩:=hT l hl;obtain⟨h3,h4⟩:=S hx;unfold uL;rw[show Aa q=true from hsy,h46];exact ab3 q h1.1 h2.1 (yO h1) (yO h2) (fun v hv=>by
     obtain⟨s,t,rfl,_,_⟩:=Ih.1 (h4 v hv);exact⟨s,t,rfl⟩) (yO h3)
   have h:=fin (α:=Int×Str×Int×Int×Str×(List Ty)×(List Tm)×(List Val)×(List Val)×(List Bound)) (F:=fun n x l=>D8 n l x.1 x.2.1 x.2.2.1 x.2.2.2.1 x.2.2.2.2.1 x.2.2.2.2.2.1 x.2.2.2.2.2.2.1 x.2.2.2.2.2.2.2.1 x.2.2.2.2.2.2.2.2.1) (D:=fun n v x=>jS n v x.1 x.2.1 x.2.2.1 x.2.2.2.1 x.2.2.2.2.1 x.2.2.2.2.2.1 x.2.2.2.2.2.2.1 x.2.2.2.2.2.2.2.1 x.2.2.2.2.2.2.2.2.1) (B:=fun x=>x.2.2.2.2.2.2.2.2.2) (aEx (nm:=nm) (k:=k) (u:=u) hq iz iw) (fun l=>rfl)
    (fun l hl x hx=>Ev.same (hD l hl x hx))
    (fun l hl h18=>BU a.kids (fun n x=>jS n x q nm k u.kind u.name u.kids [z,w] (l.headD v0).kids ((l.drop 1).headD v0).kids) _ (fun x hx=>Ev.same (hD l hl x (hkids h18 x hx))) la')
   exact h
  | pow hz=>
   rename_i nm k u z c;have iz:=hK z (by simp[Tm.kids]) hsy;simp only[Tm.op,show((46:Int)==46)=true from rfl,cond_true,cond_false,qAC];have hD:∀l,gD [aI g z bs]=.ok l→∀x,hasB env sz (ak c) x=true→Ev (fun n=>iK n x (l.headD v0).kids) (uL 46 l x):=fun l hl x hx=>by
    obtain⟨p,h1,h3⟩:=seq1 (f:=fun l=>(RR.ok (mkSet l):VR)) (v:=mkSet l) (by rw[hl];rfl);cases h3;have hp:=(S (sound hg z sc _ bs p hz hs h1)).1;have hx:=(S hx).1;show Ev _ (x.kids.all (bG p.kids));rw[←asG];exact Ev.bind (BU x.kids (fun n v=>uo n v p.kids) (bG p.kids) (fun v _=>hp.has v) (yO hx)) (Ev.ret _)
   have h:=fin (α:=List Val×List Bound) (F:=fun n x l=>D5 n l x.1) (D:=fun n v x=>iK n v x.1) (B:=fun x=>x.2) (aEV (nm:=nm) (k:=k) (u:=u) iz) (fun l=>rfl) hD
    (fun l hl h18=>BU a.kids (fun n x=>iK n x (l.headD v0).kids) _ (fun x hx=>hD l hl x (hkids h18 x hx)) la')
   exact h
  | bin q hq=>rcases hq with rfl | rfl | rfl<;>cases hsy
  | dres q hq=>rcases hq with rfl | rfl<;>cases hsy
  | rres q hq=>rcases hq with rfl | rfl<;>cases hsy
  | _=>cases hsy
 ·rw[qCu] at hsy;rw[hsy];simp only[cond_true,cond_false,qBe];have hD:∀l,gD [aI g y bs]=.ok l→∀x:Val,Ev (fun n=>iI n x (l.headD v0).kids) (uL y.op l x):=fun l hl x=>by
   obtain⟨p,h1,h3⟩:=seq1 (f:=fun l=>(RR.ok (mkSet l):VR)) (v:=mkSet l) (by rw[hl];rfl);cases h3;have hp:=(S (sound hg y sc _ bs p hy hs h1)).1;unfold uL;rw[hsy];exact hp.has x
  have h:=fin (α:=List Val×List Bound) (F:=fun n x l=>El n l x.1) (D:=fun n v x=>iI n v x.1) (B:=fun x=>x.2) (aEz hsy hE) (fun l=>rfl) (fun l hl x _=>hD l hl x)
   (fun l hl h18=>BU a.kids (fun n x=>iI n x (l.headD v0).kids) _ (fun x hx=>hD l hl x) la')
  exact h
end
end
section
open Go
section
variable {cs:List Carrier}{ds:List Decl}{sz:List Int}{m:List (Str×Val)}{g:Str→Val}
theorem ayf{env:Env}{sc:List Decl}{bs:List Bound}(h:Scp env sz sc bs)(s:Str)(hb:bs.find? (fun b=>b.name==s)=none):sc.find? (fun d=>d.name==s)=none:=by
 induction h with
 | nil=>rfl
 | cons h k ih=>
  rename_i nm u v sc bs;simp only[qBX] at hb⊢;cases hn:(nm==s) with
  | true=>simp only[hn] at hb;cases hb
  | false=>simp only[hn] at hb⊢;exact ih hb
def LkE(env:Env)(cs:List Carrier)(ds:List Decl)(sz:List Int)(m:List (Str×Val))(g:Str→Val):Prop:=∀s t,look env s=some t→∀b,Ev (fun n=>aa7 n cs ds sz m b s) (.ok (g s))
theorem avM{env:Env}(hk:LkE env cs ds sz m g){sc:List Decl}{bs:List Bound}(h:Scp env sz sc bs){s:Str}{t:Ty}(ht:wK env sc s=some t):Ev (fun n=>lZ n cs ds sz m bs.reverse s) (pz (.ok (agj g bs s))):=by
 unfold lZ agj;rw[List.reverse_reverse];cases hb:bs.find? (fun b=>b.name==s) with
 | some b=>exact Ev.ret _
 | none=>
  unfold wK at ht;rw[ayf h s hb] at ht;exact hk s t ht _
theorem jZ{t:Tm}{bs:List Bound}(h:dz (vb bs.reverse) (fun n=>qx n (bf n) (bg n) (bq n) (bP n) (bW n) (aH n) (bQ n) cs ds sz m bs.reverse t) bs.reverse (aI g t bs)):lq cs ds sz m g t bs:=dz.succ h
def EL(op:Int):Bool:=op==3 ||(op==7 ||(decide (10≤op)&&decide (op≤15) ||(decide (21≤op)&&decide (op≤27) ||decide (30≤op)&&decide (op≤54))))
theorem anu(n:Nat){r1 r2 r3 r4 r5 r6 r7}{op:Int}{nm:Str}{k:Int}{u:Ty}{ks:List Tm}{b:List Bound}(h:EL op=true):
  qx n r1 r2 r3 r4 r5 r6 r7 cs ds sz m b (.mk op nm k u ks)=(Hy n r1 r2 r3 r4 r5 r6 r7 cs ds sz m (.mk op nm k u ks) n (0,0,0,([]:Str),([]:List Val),0,0,([]:Str),([]:List Val),b)).bind (am6 op n):=by
 unfold EL at h;simp only[qAZ,qAa,beq_iff_eq,decide_eq_true_eq] at h;have e:∀c:Int,(c=1∨c=2∨c=19∨c=20∨c=29∨c=4∨c=5∨c=6∨c=8∨c=9∨c=55∨c=56∨c=16∨c=17∨c=18∨c=28)→(op==c)=false:=fun c hc=>by
  rw[beq_eq_false_iff_ne];omega
 unfold qx;simp only[Tm.op,e 1 (by omega),e 2 (by omega),e 19 (by omega),e 20 (by omega),e 29 (by omega),e 4 (by omega),e 5 (by omega),e 6 (by omega),e 8 (by omega),e 9 (by omega),e 55 (by omega),e 56 (by omega),e 16 (by omega),e 17 (by omega),e 18 (by omega),e 28 (by omega),cond_false,qAb]
theorem arN{op:Int}{nm:Str}{k:Int}{ks:List Kd}{bs:List Bound}(h:EL op=true):Zr g op nm k ks bs=(gD (ks.map fun k=>k.f bs)).thn (gX op):=by
 unfold EL at h;simp only[qAZ,qAa,beq_iff_eq,decide_eq_true_eq] at h;have e:∀c:Int,(c=1∨c=2∨c=19∨c=20∨c=29∨c=4∨c=5∨c=6∨c=8∨c=9∨c=55∨c=56∨c=16∨c=17∨c=18∨c=28)→(op==c)=false:=fun c hc=>by
  rw[beq_eq_false_iff_ne];omega
 unfold Zr dx;simp only[e 1 (by omega),e 2 (by omega),e 19 (by omega),e 20 (by omega),e 29 (by omega),e 4 (by omega),e 5 (by omega),e 6 (by omega),e 8 (by omega),e 9 (by omega),e 55 (by omega),e 56 (by omega),e 16 (by omega),e 17 (by omega),e 18 (by omega),cond_false,Bool.or_self]
theorem app1{op:Int}{nm:Str}{k:Int}{u:Ty}{x:Tm}{bs:List Bound}(h:EL op=true)(hx:lq cs ds sz m g x bs)(hA:∀a,aI g x bs=.ok a→Ev (fun n=>nK n op a v0) (pz (DY op a v0))):lq cs ds sz m g (.mk op nm k u [x]) bs:=by
 have h28:(op==28)=false:=by
  unfold EL at h;simp only[qAZ,qAa,beq_iff_eq,decide_eq_true_eq] at h;rw[beq_eq_false_iff_ne];omega
 refine jZ ?_;rw[zq,arN h];simp only[anu _ h];exact aDg h28 hx hA
theorem Dw{op:Int}{nm:Str}{k:Int}{u:Ty}{x y:Tm}{bs:List Bound}(h:EL op=true)(hx:lq cs ds sz m g x bs)(hy:lq cs ds sz m g y bs)(hA:∀a b,aI g x bs=.ok a→aI g y bs=.ok b→Ev (fun n=>nK n op a b) (pz (DY op a b))):lq cs ds sz m g (.mk op nm k u [x,y]) bs:=by
 have h28:(op==28)=false:=by
  unfold EL at h;simp only[qAZ,qAa,beq_iff_eq,decide_eq_true_eq] at h;rw[beq_eq_false_iff_ne];omega
 refine jZ ?_;rw[zq,arN h];simp only[anu _ h];exact aCF h28 hx hy hA
theorem aoG{env:Env}(hg:GOk env sz g){op:Int}{nm:Str}{k:Int}{u:Ty}{sc:List Decl}{t:Ty}{x y:Tm}{bs:List Bound}(ho:op=16∨op=17∨op=18)(hs:Scp env sz sc bs)(hx:HT env sc x (cond (op==18) (ak t) t))(hy:HT env sc y (ak t))(hX:lq cs ds sz m g x bs)(hE:lq cs ds sz m g y bs)
  (hK:∀z∈y.kids,Aa y.op=true→lq cs ds sz m g z bs) (hl:∀v,aI g x bs=.ok v→v.kids.length≤256):lq cs ds sz m g (.mk op nm k u [x,y]) bs:=by
 refine jZ ?_;have e:aI g (.mk op nm k u [x,y]) bs=(aI g x bs).thn (anL op (Eu g y) bs):=by
  rw[zq];rcases ho with rfl | rfl | rfl<;>rfl
 rw[e];have main:=fun a (ha:aI g x bs=.ok a)=>aDr (cs:=cs) (ds:=ds) (m:=m) hg ho hs hy hE hK a (sound hg x sc _ bs a hx hs ha) (hl a ha);unfold lq at hX;rcases ho with rfl | rfl | rfl
 ·exact dz.mono (f:=fun n=>(aH n cs ds sz m bs.reverse x).bind (PZ.el (fun x7=>_) (fun e8 z8=>some (.er e8 z8)))) (fun v h=>h) (dz.bind (K:=vb bs.reverse) hX main)
 ·exact dz.mono (f:=fun n=>(aH n cs ds sz m bs.reverse x).bind (PZ.el (fun x7=>_) (fun e8 z8=>some (.er e8 z8)))) (fun v h=>h) (dz.bind (K:=vb bs.reverse) hX main)
 ·exact dz.mono (f:=fun n=>(aH n cs ds sz m bs.reverse x).bind (PZ.el (fun x7=>_) (fun e8 z8=>some (.er e8 z8)))) (fun v h=>h) (dz.bind (K:=vb bs.reverse) hX main)
end
theorem asF{env:Env}{sz:List Int}{t:Ty}{v:Val}(h:hasB env sz t v=true):v.kids.length≤256:=by
 obtain⟨k,nm,ks⟩:=t;rw[hasB] at h;unfold aaF Zc RD at h
 revert h
 cases k==1
 ·cases k==2
  ·cases k==3
   ·cases k==4
    ·simp only[cond_false,qAa,qAF,decide_eq_false_iff_not];omega
    ·simp only[cond_false,cond_true,qAa,beq_iff_eq];omega
   ·simp only[cond_false,cond_true,qAa,beq_iff_eq];omega
  ·simp only[cond_false,cond_true,qAa,beq_iff_eq];omega
 ·simp only[cond_true,qAa,beq_iff_eq];omega
theorem aBo{env:Env}{cs:List Carrier}{ds:List Decl}{sz:List Int}{m:List (Str×Val)}{g:Str→Val}(hg:GOk env sz g)(hk:LkE env cs ds sz m g)(t:Tm):
  (∀d sc ty bs,Wf d t→HT env sc t ty→Scp env sz sc bs→(bs.length:Int)<d→lq cs ds sz m g t bs)∧∀z∈t.kids,∀d sc ty bs,Wf d z→HT env sc z ty→Scp env sz sc bs→(bs.length:Int)<d→lq cs ds sz m g z bs:=by
 induction t using Tm.ind with
 | h op nm k u ks ih=>
 refine⟨?_,fun z hz=>(ih z hz).1⟩;intro d sc ty bs hw ht hs hb;obtain⟨hnode,hd,hkl,hkw⟩:=hw.node;have hbl:bs.length≤1000:=by omega
 have S:∀{e:Ty} {w:Val},hasB env sz (ak e) w=true→iT w.kids∧∀x∈w.kids,hasB env sz e x=true:=fun hw=>by
  obtain⟨l,rfl,h1,h2⟩:=nL.1 hw;exact⟨h1,h2⟩
 have R:∀{a b:Ty} {w:Val},hasB env sz (ak (aK a b)) w=true→nC w.kids:=fun hw p hp=>by
  obtain⟨x,y,rfl,_,_⟩:=Ih.1 ((S hw).2 p hp);exact⟨x,y,rfl⟩
 have I:∀{w:Val},hasB env sz bY w=true→QB w.n:=fun hw=>by
  obtain⟨n,rfl,h⟩:=Nr.1 hw;exact h
 have D:=fun x (hx:x∈ks) ty (h:HT env sc x ty)=>(ih x hx).1 (d+1) sc ty bs (hkw x hx) h hs (by omega);have V:∀{x:Tm} {ty:Ty} {v:Val},HT env sc x ty→aI g x bs=.ok v→hasB env sz ty v=true:=fun h e=>sound hg _ sc _ bs _ h hs e;have z0:iT v0.kids:=⟨.nil,by simp[v0,Val.kids]⟩;have sA:∀{op:Int} {a b:Val},31≤op→iT a.kids→iT b.kids→((35≤op∧op≤36∨39≤op∧op≤40∨50≤op∧op≤54)→nC a.kids)→(35≤op∧op≤38→nC b.kids)→SetsOk op a b:=fun h31 h1 h2 h3 h4=>⟨fun h=>by omega,fun _=>⟨h1,h2⟩,h3,h4⟩;have bn:∀{op:Int} {x y:Tm} {e t:Ty},dx op=true→ks=[x,y]→HT env sc x (ak e)→HT env (⟨nm,e⟩::sc) y t→dz (vb bs.reverse) (fun n=>bW n cs ds sz m bs.reverse (.mk op nm k u [x,y])) bs.reverse (aI g (.mk op nm k u [x,y]) bs):=fun hbd hks hx hy=>by
  subst hks;refine axT hbd (D _ (by simp) _ hx) hbl (fun v hv=>(S (V hx hv)).1.2) fun v hv a ha=>?_;exact(ih _ (by simp)).1 (d+1) _ _ _ (hkw _ (by simp)) hy (.cons ((S (V hx hv)).2 a ha) hs) (by simp;omega)
 have K:∀{y:Tm} {t:Ty},y∈ks→HT env sc y (ak t)→∀z∈y.kids,Aa y.op=true→lq cs ds sz m g z bs:=fun{y t} hym hy z hz hsy=>by
  have hwy:=(hkw y hym);have hi:=fun hT=>(ih y hym).2 z hz (d+1+1) sc hT bs;cases hy with
  | fam q hq hz1 hw1=>
   have hz:z∈[_,_]:=hz;have hwz:=hwy.node.2.2.2 z hz;rcases qAg.1 hz with rfl | hz'
   ·exact hi _ hwz hz1 hs (by omega)
   ·have hz':=qBc.1 hz';subst hz';exact hi _ hwz hw1 hs (by omega)
  | pow hz1=>
   have hz:z∈[_]:=hz;have hwz:=hwy.node.2.2.2 z hz;have hz':=qBc.1 hz;subst hz';exact hi _ hwz hz1 hs (by omega)
  | bin q hq=>rcases hq with rfl | rfl | rfl<;>cases hsy
  | dres q hq=>rcases hq with rfl | rfl<;>cases hsy
  | rres q hq=>rcases hq with rfl | rfl<;>cases hsy
  | _=>cases hsy
 cases ht with
 | lit op ho=>
  refine jZ ?_;rcases ho with rfl | rfl
  ·exact Ev.of fun _=>rfl
  ·exact Ev.of fun _=>rfl
 | int h=>
  refine jZ ?_;exact dz.pure (r:=wP k) (KV k) (Er.int k)
 | name hl=>
  refine jZ ?_;exact dz.pure (avM hk hs hl) (Er.ok _)
 | empty h=>
  refine jZ ?_;exact Ev.of fun _=>rfl
 | not hx=>exact app1 rfl (D _ (by simp) _ hx) fun a ha=>fI (by omega) (by omega) (by omega) (by omega) (by omega) (by omega) (by omega)
 | log op ho hx hy=>
  rename_i x y;rcases ho with rfl | rfl | rfl | rfl
  ·exact jZ (dz.same (acY (by omega) (D _ (by simp) _ hx) (D _ (by simp) _ hy)))
  ·exact jZ (dz.same (acY (by omega) (D _ (by simp) _ hx) (D _ (by simp) _ hy)))
  ·exact jZ (dz.same (acY (by omega) (D _ (by simp) _ hx) (D _ (by simp) _ hy)))
  ·exact Dw rfl (D _ (by simp) _ hx) (D _ (by simp) _ hy) fun a b ha hb=>fI (by omega) (by omega) (by omega) (by omega) (by omega) (by omega) (by omega)
 | qu op ho hx hy=>
  rename_i x y e;rcases ho with rfl | rfl
  ·exact jZ (dz.same (bn rfl rfl hx hy))
  ·exact jZ (dz.same (bn rfl rfl hx hy))
 | compr hx hy=>exact jZ (dz.same (bn rfl rfl hx hy))
 | fn hgt hx hy=>exact jZ (dz.same (bn rfl rfl hx hy))
 | eq op ho hgt hx hy=>
  rcases ho with rfl | rfl
  ·exact Dw rfl (D _ (by simp) _ hx) (D _ (by simp) _ hy) fun a b ha hb=>fI (by omega) (by omega) (by omega) (by omega) (by omega) (by omega) (by omega)
  ·exact Dw rfl (D _ (by simp) _ hx) (D _ (by simp) _ hy) fun a b ha hb=>fI (by omega) (by omega) (by omega) (by omega) (by omega) (by omega) (by omega)
 | ord op ho hx hy=>
  have h1:EL op=true:=by rcases ho with rfl | rfl | rfl | rfl<;>rfl
  exact Dw h1 (D _ (by simp) _ hx) (D _ (by simp) _ hy) fun a b ha hb=>fI (by omega) (by omega) (by omega) (by omega) (by omega) (by omega) (by omega)
 | inn op ho hx hy=>
  rename_i x y t;have h18:(op==18)=false:=by rcases ho with rfl | rfl<;>rfl
  exact aoG hg (by omega) hs (by rw[h18];exact hx) hy (D _ (by simp) _ hx) (D _ (by simp) _ hy) (K (by simp) hy) fun v hv=>asF (V hx hv)
 | sub hx hy=>exact aoG hg (.inr (.inr rfl)) hs hx hy (D _ (by simp) _ hx) (D _ (by simp) _ hy) (K (by simp) hy) fun v hv=>asF (V hx hv)
 | neg hx=>exact app1 rfl (D _ (by simp) _ hx) fun a ha=>fI (by omega) (fun _=>⟨I (V hx ha),by constructor<;>simp[v0,Val.n]⟩) (by omega) (by omega) (by omega) (by omega) (by omega)
 | num op ho hx hy=>
  have h1:EL op=true:=by rcases ho with rfl | rfl | rfl | rfl | rfl<;>rfl
  exact Dw h1 (D _ (by simp) _ hx) (D _ (by simp) _ hy) fun a b ha hb=>fI (by omega) (fun _=>⟨I (V hx ha),I (V hy hb)⟩) (by omega) (by omega) (by omega) (by omega) (by omega)
 | pair h1 h2 hx hy=>exact Dw rfl (D _ (by simp) _ hx) (D _ (by simp) _ hy) fun a b ha hb=>fI (by omega) (by omega) (by omega) (by omega) (by omega) (by omega) (by omega)
 | set hgt hn hx=>
  refine jZ ?_;have e:aI g (.mk 28 nm k u ks) bs=(gD (ks.map fun t=>aI g t bs)).thn pX:=by
   rw[zq];show(gD ((ks.map (Eu g)).map fun k=>k.f bs)).thn pX=_;rw[qBh];rfl
  rw[e];exact avX (fun x hx'=>D x hx' _ (hx x hx')) (by omega)
 | range hx hy=>exact Dw rfl (D _ (by simp) _ hx) (D _ (by simp) _ hy) fun a b ha hb=>fI (by omega) (by omega) (by omega) (by omega) (by omega) (by omega) fun _=>⟨fun _=>⟨I (V hx ha),I (V hy hb)⟩,fun h=>absurd rfl h,by omega,by omega⟩
 | bin op ho hx hy=>
  have h1:EL op=true:=by rcases ho with rfl | rfl | rfl<;>rfl
  exact Dw h1 (D _ (by simp) _ hx) (D _ (by simp) _ hy) fun a b ha hb=>fI (by omega) (by omega) (by omega) (by omega) (by omega) (by omega) fun _=>sA (by omega) (S (V hx ha)).1 (S (V hy hb)).1 (by omega) (by omega)
 | prod hx hy=>exact Dw rfl (D _ (by simp) _ hx) (D _ (by simp) _ hy) fun a b ha hb=>fI (by omega) (by omega) (by omega) (by omega) (by omega) (by omega) fun _=>sA (by omega) (S (V hx ha)).1 (S (V hy hb)).1 (by omega) (by omega)
 | over hx hy=>exact Dw rfl (D _ (by simp) _ hx) (D _ (by simp) _ hy) fun a b ha hb=>fI (by omega) (by omega) (by omega) (by omega) (by omega) (by omega) fun _=>sA (by omega) (S (V hx ha)).1 (S (V hy hb)).1 (fun _=>R (V hx ha)) (fun _=>R (V hy hb))
 | comp hx hy=>exact Dw rfl (D _ (by simp) _ hx) (D _ (by simp) _ hy) fun a b ha hb=>fI (by omega) (by omega) (by omega) (by omega) (by omega) (by omega) fun _=>sA (by omega) (S (V hx ha)).1 (S (V hy hb)).1 (fun _=>R (V hx ha)) (fun _=>R (V hy hb))
 | dres op ho hx hy=>
  have h1:EL op=true:=by rcases ho with rfl | rfl<;>rfl
  exact Dw h1 (D _ (by simp) _ hx) (D _ (by simp) _ hy) fun a b ha hb=>fI (by omega) (by omega) (by omega) (by omega) (by omega) (by omega) fun _=>sA (by omega) (S (V hx ha)).1 (S (V hy hb)).1 (by omega) (fun _=>R (V hy hb))
 | rres op ho hx hy=>
  have h1:EL op=true:=by rcases ho with rfl | rfl<;>rfl
  exact Dw h1 (D _ (by simp) _ hx) (D _ (by simp) _ hy) fun a b ha hb=>fI (by omega) (by omega) (by omega) (by omega) (by omega) (by omega) fun _=>sA (by omega) (S (V hx ha)).1 (S (V hy hb)).1 (fun _=>R (V hx ha)) (by omega)
 | fam op ho hx hy=>
  have h1:EL op=true:=by rcases ho with rfl | rfl | rfl | rfl | rfl<;>rfl
  exact Dw h1 (D _ (by simp) _ hx) (D _ (by simp) _ hy) fun a b ha hb=>fI (by omega) (by omega) (by omega) (by omega) (by omega) (by omega) fun _=>sA (by omega) (S (V hx ha)).1 (S (V hy hb)).1 (by omega) (by omega)
 | pow hx=>exact app1 rfl (D _ (by simp) _ hx) fun a ha=>fI (by omega) (by omega) (by omega) (by omega) (by omega) (by omega) fun _=>sA (by omega) (S (V hx ha)).1 z0 (by omega) (by omega)
 | card hx=>exact app1 rfl (D _ (by simp) _ hx) fun a ha=>fI (by omega) (by omega) (fun _=>(S (V hx ha)).1) (by omega) (by omega) (by omega) (by omega)
 | ext op ho hx=>
  have h1:EL op=true:=by rcases ho with rfl | rfl<;>rfl
  exact app1 h1 (D _ (by simp) _ hx) fun a ha=>fI (by omega) (by omega) (fun _=>(S (V hx ha)).1) (by omega) (by omega) (by omega) (by omega)
 | dom hx=>exact app1 rfl (D _ (by simp) _ hx) fun a ha=>fI (by omega) (by omega) (by omega) (by omega) (by omega) (by omega) fun _=>sA (by omega) (S (V hx ha)).1 z0 (fun _=>R (V hx ha)) (by omega)
 | ran hx=>exact app1 rfl (D _ (by simp) _ hx) fun a ha=>fI (by omega) (by omega) (by omega) (by omega) (by omega) (by omega) fun _=>sA (by omega) (S (V hx ha)).1 z0 (fun _=>R (V hx ha)) (by omega)
 | inv hx=>exact app1 rfl (D _ (by simp) _ hx) fun a ha=>fI (by omega) (by omega) (by omega) (by omega) (by omega) (by omega) fun _=>sA (by omega) (S (V hx ha)).1 z0 (fun _=>R (V hx ha)) (by omega)
 | image hx hy=>exact Dw rfl (D _ (by simp) _ hx) (D _ (by simp) _ hy) fun a b ha hb=>fI (by omega) (by omega) (by omega) (by omega) (by omega) (by omega) fun _=>sA (by omega) (S (V hx ha)).1 (S (V hy hb)).1 (fun _=>R (V hx ha)) (by omega)
 | app hx hy=>exact Dw rfl (D _ (by simp) _ hx) (D _ (by simp) _ hy) fun a b ha hb=>fI (by omega) (by omega) (fun _=>(S (V hx ha)).1) (fun _=>R (V hx ha)) (by omega) (by omega) (by omega)
end
section
open Go
def BP(env:Env):List (Str×Ty):=fA (pW env) []
def y8(env:Env):List (Str×Bool):=fA (env.carriers.map fun c=>(c.name,true)) []
theorem aol{env:Env}(h:aZ env=true)(s:Str):dw (BP env) s=look env s:=by
 unfold BP;rw[NY _ _ _ (AO h),Kz];unfold look;rw[←afq (agF env) (AO h)];cases dw (pW env) s<;>rfl
theorem arj{env:Env}(h:aZ env=true)(s:Str):dw (y8 env) s=cond (bV env s) (some true) none:=by
 unfold y8;have hn:((env.carriers.map fun c=>(c.name,true)).map (·.1)).Nodup:=by
  have:=(iA h).2.2.2.2;unfold names2 at this;rw[qBh];exact(qBq.1 this).1
 rw[NY _ _ _ hn,Kz,QY (fun c:Carrier=>c.name) (fun _=>true)];unfold bV;cases hf:env.carriers.find? (fun c=>c.name==s) with
 | none=>
  have:(env.carriers.any fun c=>c.name==s)=false:=by
   rw[qCF];intro x hx;simpa using qCz.1 hf x hx
  rw[this];rfl
 | some c=>
  have:(env.carriers.any fun c=>c.name==s)=true:=qCI.2 ⟨c,qDs hf,by have:=List.find?_some hf;simpa using this⟩;rw[this];rfl
theorem alL{env:Env}(h:aZ env=true):Ev (fun n=>wJ n env) (BP env,y8 env):=by
 obtain⟨hc8,_⟩:=iA h;unfold wJ;refine Ev.bind (ayM h) ?_;have h1:=qO (ρ:=(List (Str×Ty))×(List (Str×Bool))) env.carriers (fun n k i s=>Gm n env k (i,s)) (fun n x s=>xG s x.name true) (fun x s=>jX s x.name true) (fun s=>s) (fun suf s=>s.length+suf.length≤1000)
  (fun n k i s=>rfl)
  (fun x suf s hx hs=>by
   simp only[qAm] at hs;refine⟨?_,?_⟩
   ·rw[I4 (by omega)];exact Ev.ret _
   ·have:=AU s x.name true;omega) (s0:=[]) (by simp;omega)
 have hf:∀(cs:List Carrier) (m:List (Str×Bool)),cs.foldl (fun s x=>jX s x.name true) m=fA (cs.map fun c=>(c.name,true)) m:=by
  intro cs
  induction cs with
  | nil=>intro m;rfl
  | cons e es ih=>intro m;rw[qBl,ih];rfl
 rw[hf] at h1;exact Ev.bind h1 (Ev.ret _)
theorem ayv{env:Env}(h:aZ env=true){t:Ty}(ht:eG t=true)(M:List (Str×Ty))(path:List Int):Ev (fun n=>nJ n M (y8 env) path t) (knows env t):=by
 unfold nJ nW qQ knows;refine Ev.bind (Km ht) ?_;generalize hl:((fA ((dN t).map fun s=>(s,true)) []).map (·.1)).mergeSort leS=l;have hm:∀s,s∈l↔s∈dN t:=fun s=>by rw[←hl];exact aat t s
 have hf:=vI l (fun n k i=>wm n l M (y8 env) path k i) (fun n x=>oQ n x M (y8 env) path) (fun s=>!(bV env s)) (fun n k i=>rfl) (fun x _=>by
  unfold oQ;rw[arj h];cases bV env x
  ·exact Ev.ret _
  ·exact Ev.ret _)
 refine Ev.bind (a:=l.any fun s=>!(bV env s)) (Ev.bind hf ?_) ?_
 ·rw[vQ _ _ _ (qBP _)];exact Ev.ret _
 ·rw[su,qCr];have:l.all (bV env)=(dN t).all (bV env):=by
   have h:(l.all (bV env)=true)↔((dN t).all (bV env)=true):=by simp only[qAE,hm]
   cases h1:l.all (bV env)<;>cases h2:(dN t).all (bV env)<;>simp_all
  rw[this];exact Ev.ret _
theorem adq(n:Nat)(op:Int):zx n op=some (dx op):=by
 unfold zx dx;simp only[orC,qAb]
theorem agd(t:Ty):Ev (fun n=>oG n t) (cond (eG t) (t,0) (aW,5)):=by
 unfold oG;refine Ev.bind (wH t) ?_;cases eG t
 ·exact Ev.ret _
 ·exact Ev.ret _
def scP(o:Option Decl):Ty×Bool:=match o with | some d=>(d.ty,true) | none=>(aW,false)
theorem afk(sc:List Decl)(s:Str):Ev (fun n=>oq n sc s) (scP (sc.find? fun d=>d.name==s)):=by
 have key:∀(sc:List Decl) (n k:Nat),sc.length+1≤k→oP n s k sc=some (match sc.find? (fun d=>d.name==s) with | some d=>.rt (d.ty,true) | none=>.nx ()):=by
  intro sc
  induction sc with
  | nil=>
   intro n k hk;cases k with
   | zero=>simp at hk
   | succ k=>rfl
  | cons d sc ih=>
   intro n k hk;cases k with
   | zero=>simp at hk
   | succ k=>
    show cond (d.name==s) (some (.rt (d.ty,true))) (oP n s k sc)=_;simp only[qBX];cases hd:d.name==s with
    | true=>rfl
    | false=>exact ih n k (by simp at hk;omega)
 unfold oq;have h1:Ev (fun n=>oP n s n sc) (match sc.find? (fun d=>d.name==s) with | some d=>.rt (d.ty,true) | none=>.nx ()):=⟨sc.length+1,fun n hn=>key sc n n hn⟩
 refine Ev.bind h1 ?_;cases sc.find? fun d=>d.name==s
 ·exact Ev.ret _
 ·exact Ev.ret _
def Sb(path:List Int)(r:TR):Ty×Int×List Int:=match r with | .ok t=>(t,0,path) | .er e p=>(aW,e,path++p)
abbrev CS:=List Decl×List Ty×List Int
def aEl(env:Env)(n:Nat)(t:Tm)(i:Int)(s:CS):Option (LR CS (Ty×Int×List Int)):=(iZ n (BP env) (y8 env) s.2.2 t i s.1).bind fun(x57:Ty×Int×(List Int))=>(cond (x57.2.1 !=0) (some (.rt ((Ty.mk 0 ([]:Str) ([])),x57.2.1,x57.2.2))) ((app 48 s.2.1 ([x57.1])).bind fun(x58:List Ty)=>(((cond (i==0) ((zx n t.op).bind fun(x60:Bool)=>some x60) (some false)):Option Bool).bind fun(s6:Bool)=>(cond s6 ((bO n x57.1).bind fun(x59:Ty×Bool)=>(cond (!x59.2) (some (.rt ((Ty.mk 0 ([]:Str) ([])),7,x57.2.2))) (some (.nx (((Decl.mk t.name x59.1)::s.1),x58,x57.2.2))))) (some (.nx (s.1,x58,x57.2.2)))))))
def stC(env:Env)(op:Int)(nm:Str)(i:Int)(x:Tm)(s:CS):LR CS (Ty×Int×List Int):=match gJ env s.1 x with
 | .er e p=>.rt (aW,e,s.2.2++i::p)
 | .ok ty=>match tK (i==0&&dx op) nm ty s.1 with
  | none=>.rt (aW,7,s.2.2)
  | some sc'=>.nx (sc',s.2.1++[ty],s.2.2)
theorem asC(env:Env)(op:Int)(nm:Str):∀(ts:List Tm) (i:Int) (sc:List Decl) (acc:List Ty) (path:List Int),0≤i→(match gZ env sc (i==0&&dx op) nm i ts with
  | .er e p=>jO (stC env op nm) (fun s=>s) i ts (sc,acc,path)=.rt (aW,e,path++p)
  | .ok l=>∃sc',jO (stC env op nm) (fun s=>s) i ts (sc,acc,path)=.nx (sc',acc++l,path))
 | [],i,sc,acc,path,_=>by
  simp only[gZ,jO,qAr];exact⟨sc,rfl⟩
 | t::ts,i,sc,acc,path,hi=>by
  simp only[gZ,jO,stC];cases ht:gJ env sc t with
  | er e p=>rfl
  | ok ty=>
   simp only;cases hb:tK (i==0&&dx op) nm ty sc with
   | none=>simp only[qAr]
   | some sc'=>
    simp only;have hz:(i+1==0)=false:=by simp only[beq_eq_false_iff_ne];omega
    have:=asC env op nm ts (i+1) sc' (acc++[ty]) path (by omega);rw[hz,qBs] at this;cases hr:gZ env sc' false nm (i+1) ts with
    | er e p=>rw[hr] at this;exact this
    | ok l=>
     rw[hr] at this;obtain⟨sc2,h2⟩:=this;exact⟨sc2,by rw[h2];simp⟩
def axJ(env:Env)(t:Tm):Prop:=∀(d:Int) (sc:List Decl) (path:List Int),Wf d t→GoodS sc→(path.length:Int)<d→Ev (fun n=>kP n (BP env) (y8 env) path t sc) (Sb path (gJ env sc t))
theorem aww(path:List Int)(i:Int)(h:path.length≤1000):((Dm (path++[i]).length (((path++[i]).length:Int) - 1)).bind fun(c:Nat)=>bif Nat.ble c (path++[i]).length then some (List.take c (path++[i])) else none)=some path:=by
 have e:((path++[i]).length:Int) - 1=(path.length:Int):=by simp
 have h2:Nat.ble path.length (path++[i]).length=true:=qCO (by simp);rw[e,Dm,if_pos ⟨by omega,by simp;omega⟩];simp only[qAb,qBm,h2,cond_true,List.take_left']
theorem azr{env:Env}{t x:Tm}{i:Int}(hx:idx t.kids i=some x)(hc:axJ env x){d:Int}{sc:List Decl}{path:List Int}(hw:Wf (d+1) x)(hs:GoodS sc)(hp:(path.length:Int)<d)(hd:d≤64):
  Ev (fun n=>iZ n (BP env) (y8 env) path t i sc) (match gJ env sc x with | .ok ty=>(ty,0,path) | .er e p=>(aW,e,path++i::p)):=by
 refine Ev.succ ?_;show Ev (fun n=>rD n _ _ (BP env) (y8 env) path t i sc) _;unfold rD;rw[qY (by simp;omega) (by omega),hx];simp only[qAb];refine Ev.bind (hc (d+1) sc (path++[i]) hw hs (by simp;omega)) ?_;cases ht:gJ env sc x with
 | ok ty=>
  simp only[Sb];refine Ev.bind (a:=path) ?_ (Ev.ret _);simp only[show((0:Int)==0)=true from rfl,cond_true];rw[aww path i (by omega)];exact Ev.ret _
 | er e p=>
  have he:=Np x sc e p ht;have e0:(e==0)=false:=by simpa using he
  simp only[Sb,e0,cond_false,qAb,qAo,qCp];exact Ev.ret _
theorem aze(n:Nat)(r1:(List (Str×Ty))→(List (Str×Bool))→(List Int)→Tm→(List Decl)→Option (Ty×Int×(List Int)))(r2:(List (Str×Ty))→(List (Str×Bool))→(List Int)→Tm→Int→(List Decl)→Option (Ty×Int×(List Int)))(p0:List (Str×Ty))(p1:List (Str×Bool))(p2:List Int)(p3:Tm)(p4:List Decl):
  vW n r1 r2 p0 p1 p2 p3 p4=((yu n r1 r2 p0 p1 p3 n (p4,([]:List Ty),0,p2)).bind (LR.el (fun(s2:(List Decl)×(List Ty)×(List Int))=>(cond (p3.op==20) ((oq n s2.1 p3.name).bind fun(x1:Ty×Bool)=>(cond x1.2 (some (x1.1,0,s2.2.2)) (((ZK (dw p0 p3.name) (some (false,0,([]:Str),([]:List Ty))) (fun(x2:Ty)=>some (true,x2.kind,x2.name,x2.kids))):Option (Bool×Int×Str×(List Ty))).bind fun(s3:Bool×Int×Str×(List Ty))=>(cond (!s3.1) (some ((Ty.mk 0 ([]:Str) ([])),6,s2.2.2)) (some ((Ty.mk s3.2.1 s3.2.2.1 s3.2.2.2),0,s2.2.2)))))) (cond (p3.op==29) ((nJ n p0 p1 s2.2.2 p3.ty).bind fun(x3:Bool)=>(cond (!x3) (some ((Ty.mk 0 ([]:Str) ([])),6,s2.2.2)) ((oG n (Ty.mk 5 ([]:Str) ([p3.ty]))).bind fun(x4:Ty×Int)=>some (x4.1,x4.2,s2.2.2)))) ((axj n p3.op s2.2.1).bind fun(s4:Bool×Int×Str×(List Ty))=>(cond (!s4.1) (some ((Ty.mk 0 ([]:Str) ([])),7,s2.2.2)) ((oG n (Ty.mk s4.2.1 s4.2.2.1 s4.2.2.2)).bind fun(x5:Ty×Int)=>some (x5.1,x5.2,s2.2.2))))))) (fun r=>some r))):=rfl
theorem aCJ{env:Env}(hv:aZ env=true):∀t:Tm,axJ env t:=Tm.ind fun op nm m ty ks ih d sc path hw hs hp=>by
 obtain⟨hnode,hd,hks,hkw⟩:=hw.node;obtain⟨hop,h20k,h29k,hlen,hbk⟩:=YL hnode;refine Ev.succ ?_;show Ev (fun n=>vW n (fun p0 p1 p2 p3 p4=>kP n p0 p1 p2 p3 p4) (fun p0 p1 p2 p3 p4 p5=>iZ n p0 p1 p2 p3 p4 p5) (BP env) (y8 env) path (.mk op nm m ty ks) sc) _;simp only[aze];have hloop:=azZ ks (fun n k i (s:CS)=>yu n (fun p0 p1 p2 p3 p4=>kP n p0 p1 p2 p3 p4) (fun p0 p1 p2 p3 p4 p5=>iZ n p0 p1 p2 p3 p4 p5) (BP env) (y8 env) (.mk op nm m ty ks) k (s.1,s.2.1,i,s.2.2))
  (fun n i _ s=>aEl env n (.mk op nm m ty ks) i s) (stC env op nm) (fun s=>s) (fun _ suf s=>GoodS s.1∧s.2.1.length+suf.length≤2000∧s.2.2=path)
  (fun n k s=>by
   show cond (decide ((ks.length:Int)<(ks.length:Int))) _ _=_;rw[decide_eq_false (by omega)];rfl)
  (fun n k i x s hx hi=>by
   show cond (decide (i<(ks.length:Int))) _ _=_;rw[hi];rfl)
  (fun i x suf s hx hI hidx=>by
   obtain⟨h1,h2,h3⟩:=hI;simp only[qAm] at h2;have hch:=azr (t:=.mk op nm m ty ks) (i:=i) hidx (ih x hx) (hkw x hx) h1 (path:=s.2.2) (by rw[h3];exact hp) hd;refine⟨?_,fun s' hs'=>?_⟩
   ·refine Ev.bind hch ?_;unfold stC;cases ht:gJ env s.1 x with
    | er e p=>
     have he:=Np x s.1 e p ht;have e0:(e !=0)=true:=by simpa using he
     simp only[e0,cond_true];exact Ev.ret _
    | ok u=>
     have htop:=yV hv h1 ht;simp only[show((0:Int)!=0)=false from rfl,cond_false];rw[qY (by simp;omega) (by omega)];simp only[qAb,adq,Tm.op,Tm.name];refine Ev.bind (a:=(i==0&&dx op)) ?_ ?_
     ·cases i==0
      ·exact Ev.ret _
      ·exact Ev.ret _
     ·unfold tK;cases(i==0&&dx op) with
      | false=>exact Ev.ret _
      | true=>
       simp only[cond_true,gV _ htop,qAb];cases aO u with
       | none=>exact Ev.ret _
       | some e=>exact Ev.ret _
   ·unfold stC at hs';cases ht:gJ env s.1 x with
    | er e p=>rw[ht] at hs';cases hs'
    | ok u=>
     rw[ht] at hs';simp only at hs';cases hb:tK (i==0&&dx op) nm u s.1 with
     | none=>rw[hb] at hs';cases hs'
     | some sc'=>
      rw[hb] at hs';cases hs';refine⟨Na (yV hv h1 ht) h1 hb,?_,h3⟩;simp only[qAf,qAW];omega) (s0:=(sc,[],path)) ⟨hs,by simp;omega,rfl⟩
 have hrun:=asC env op nm ks 0 sc [] path (qBP _);simp only[show((0:Int)==0)=true from rfl,qAz,qAt] at hrun;simp only[gJ];cases h20:(op==20) with
 | true=>
  have e:op=20:=by simpa using h20
  have hk:=h20k e;subst hk;refine Ev.bind hloop ?_;simp only[jO,LR.el,Tm.op,Tm.name,h20,cond_true];refine Ev.bind (afk sc nm) ?_;unfold wK;cases sc.find? (fun d=>d.name==nm) with
  | some d=>exact Ev.ret _
  | none=>
   simp only[scP,cond_false,cond_true,Tm.name,aol hv];cases hl:look env nm with
   | none=>simp only[Sb,qAr];exact Ev.ret _
   | some t=>obtain⟨a,b,c⟩:=t;exact Ev.ret _
 | false=>
  simp only[cond_false];cases h29:(op==29) with
  | true=>
   have e:op=29:=by simpa using h29
   obtain⟨hk,hvt,_⟩:=h29k e;subst hk;refine Ev.bind hloop ?_;simp only[Tm.op,h20,h29,cond_false,cond_true,Tm.ty];refine Ev.bind (ayv hv hvt _ _) ?_;cases knows env ty with
   | false=>simp only[qBe,qBM,cond_true,Sb,qAr];exact Ev.ret _
   | true=>
    simp only[qAC,qCq,cond_false,gZ,LQ];refine Ev.bind (agd (ak ty)) ?_;cases eG (ak ty) with
    | false=>simp only[cond_false,Sb,qAr];exact Ev.ret _
    | true=>exact Ev.ret _
  | false=>
   simp only[qBs,cond_false];cases hk:gZ env sc (dx op) nm 0 ks with
   | er e p=>
    rw[hk] at hrun;simp only at hrun;rw[hrun] at hloop;exact Ev.bind hloop (Ev.ret _)
   | ok l=>
    rw[hk] at hrun;obtain⟨sc',hrun⟩:=hrun;rw[hrun] at hloop;refine Ev.bind hloop ?_;simp only[LR.el,Tm.op,h20,h29,cond_false];obtain⟨k1,k2,k3⟩:=ah4 hv ks sc (dx op) nm 0 l hs hk;obtain⟨r,hr1,hr2⟩:=au3 hop.1 hop.2 (by simpa using h20) (by simpa using h29) k2 (hlen l k1) (fun hb=>k3 hb (by obtain⟨x,y,e⟩:=hbk hb;rw[e];simp));refine Ev.bind hr1 ?_;cases ho:iY op l with
    | none=>
     rw[ho] at hr2;simp only at hr2;simp only[hr2,qBe,cond_true,LQ,Sb,qAr];exact Ev.ret _
    | some t=>
     rw[ho] at hr2;simp only at hr2;subst hr2;simp only[qAC,cond_false,mE,LQ];refine Ev.bind (agd t) ?_;cases eG t with
     | false=>simp only[cond_false,Sb,qAr];exact Ev.ret _
     | true=>exact Ev.ret _
end
section
open Go
def ahI(r:TR):Ty×List Int×Int:=match r with | .ok t=>(t,[],0) | .er e p=>(aW,p,e)
end
section
open Go
def iU(env:Env)(t:Tm):Ty×List Int×Int:=cond (aZ env&&jN t) (ahI (gJ env [] t)) (aW,[],1)
theorem SK:GoodS []:=fun _ h=>by cases h
abbrev ZC(env:Env):Prop:=∀d∈env.names,d.name.length≤9223372036854775807
theorem NM(env:Env)(t:Tm)(hs:ZC env)(ht:CW t):Ev (fun n=>zk n env t) (iU env t):=by
 unfold zk iU;refine Ev.bind (a:=!(aZ env&&jN t)) ?_ ?_
 ·refine Ev.bind (Kl env hs) ?_;cases aZ env with
  | false=>exact Ev.ret _
  | true=>exact Ev.bind (LG t ht) (Ev.ret _)
 ·cases hb:(aZ env&&jN t) with
  | false=>exact Ev.ret _
  | true=>
   simp only[qAa] at hb;simp only[qAC,cond_false,cond_true];refine Ev.bind (alL hb.1) ?_;refine Ev.bind (aCJ hb.1 t 1 [] [] (NP hb.2) SK (by simp)) ?_;cases hr:gJ env [] t with
   | er e p=>
    have he:=Np t [] e p hr;have e0:(e !=0)=true:=by simpa using he
    have hp:=aaD (NP hb.2) [] e p hr;simp only[Sb,ahI,e0,cond_true,slices_Clone_int,qAt];rw[qY (by simp;omega) (by omega)];exact Ev.ret _
   | ok u=>
    simp only[Sb,ahI,show((0:Int)!=0)=false from rfl,cond_false];exact Ev.bind (aqh u (axK (yV hb.1 SK hr))) (Ev.ret _)
def JJ(env:Env)(t:Tm):Int:=cond ((iU env t).2.2==0&&(iU env t).1.kind !=2) 7 (iU env t).2.2
theorem aAk(r:Ty×List Int×Int):Ev (fun _=>((cond (r.2.2==0) (some (r.1.kind !=2)) (some false)):Option Bool).bind fun(s1:Bool)=>(cond s1 (some (7:Int)) (some r.2.2))) (cond (r.2.2==0&&r.1.kind !=2) 7 r.2.2):=by
 cases r.2.2==0 with
 | false=>exact Ev.ret _
 | true=>
  cases r.1.kind !=2
  ·exact Ev.ret _
  ·exact Ev.ret _
theorem X8(env:Env)(t:Tm)(hs:ZC env)(ht:CW t):Ev (fun n=>yP n env t) (JJ env t):=by
 unfold yP;exact Ev.bind (NM env t hs ht) (aAk _)
end
section
open Go
theorem acE{env:Env}(h:aZ env=true):∀d∈env.names,eG d.ty=true∧(dN d.ty).all (bV env)=true:=by
 intro d hd;simp only[aZ,qAa] at h;have:=qAE.1 h.2.2.1 d hd;simp only[Ct,qAa] at this;exact⟨this.2.1.1,this.2.2⟩
def nS(w:S_api_World):Bool:=(aZ w.env&&(rQ w.env w.sizes&&!((w.values.length:Int)!=(w.env.names.length:Int))))&&!((w.env.names.zip w.values).any fun q=>!(hasB w.env w.sizes q.1.ty q.2))
theorem WV(w:S_api_World)(hs:∀d∈w.env.names,d.name.length≤9223372036854775807):Ev (fun n=>vw n w) (nS w):=by
 unfold vw nS;refine Ev.bind (a:=!(aZ w.env&&(rQ w.env w.sizes&&!((w.values.length:Int)!=(w.env.names.length:Int))))) ?_ ?_
 ·refine Ev.bind (Kl w.env hs) ?_;cases aZ w.env with
  | false=>exact Ev.ret _
  | true=>
   refine Ev.bind (aqf w.env w.sizes) ?_;cases rQ w.env w.sizes with
   | false=>exact Ev.ret _
   | true=>
    simp only[qAC,cond_false,qAz,qCr];exact Ev.ret _
 ·cases hb:(aZ w.env&&(rQ w.env w.sizes&&!((w.values.length:Int)!=(w.env.names.length:Int)))) with
  | false=>exact Ev.ret _
  | true=>
   simp only[qAa,qAF,bne_eq_false_iff_eq] at hb;obtain⟨h1,h2,h3⟩:=hb;simp only[qAC,cond_false,qAz];have hd:=acE h1;refine Ev.bind (Z4 w.env.names w.values (by omega) (fun n k i=>K9 n w k i) (fun n d v=>(jF n w.env w.sizes v d.ty).bind fun b=>some (!b)) (fun d v=>!(hasB w.env w.sizes d.ty v)) false (fun n k i=>by
    show cond _ _ _=_;simp only[qBT,qAb];rfl) (fun d hm v=>Ev.bind (aCw w.env w.sizes (Rn h2) (agK (hd d hm).1) (hd d hm).2 v) (Ev.ret _))) ?_
   cases((w.env.names.zip w.values).any fun q=>!(hasB w.env w.sizes q.1.ty q.2))<;>exact Ev.ret _
end
section
open Go
def elems(name:Str)(k:Nat):List Val:=(List.range k).map fun(i:Nat)=>Val.mk 3 (i:Int) name []
def R5:List Carrier→List Int→Str→Option Val
 | c::cs,z::zs,s=>cond (c.name==s) (some (mkSet (elems c.name z.toNat))) (cond (decide (0≤gI (fun e=>s==e) 0 c.elems)) (some (.mk 3 (gI (fun e=>s==e) 0 c.elems) c.name [])) (R5 cs zs s))
 | _,_,_=>none
def G8(w:S_api_World):List (Str×Val):=fA ((w.env.names.zip w.values).map fun q=>(q.1.name,q.2)) []
def iC(w:S_api_World)(s:Str):Val:=match dw (G8 w) s with
 | some v=>v
 | none=>(R5 w.env.carriers w.sizes s).getD v0
theorem Kw{w:S_api_World}(h:nS w=true):aZ w.env=true∧rQ w.env w.sizes=true∧w.values.length=w.env.names.length∧∀q∈w.env.names.zip w.values,hasB w.env w.sizes q.1.ty q.2=true:=by
 unfold nS at h;simp only[qAa,qAF,bne_eq_false_iff_eq,qCF,qCu,Bool.not_eq_false] at h;exact⟨h.1.1,h.1.2.1,by omega,fun q hq=>h.2 q hq⟩
theorem aBb(nm:Str)(z:Int)(h0:0≤z)(h8:z≤8):Ev (fun n=>J4 n nm z) (elems nm z.toNat):=by
 have hz:(((List.range z.toNat).length:Nat):Int)=z:=by rw[qCG];omega
 have h:=xJ (ρ:=List Val) (List.range z.toNat) (fun n=>Af n nm z) (fun i s=>(s,i)) (fun i=>[Val.mk 3 (i:Int) nm []]) 1000 (by omega) (fun n rec s=>by
  unfold Af;rw[hz,decide_eq_false (Int.lt_irrefl _)];rfl) (fun pre x suf s e hb=>⟨0,fun n hn rec=>by
  have hx:x=pre.length:=by
   have h1:=congrArg (fun l=>l[pre.length]?) e;simp at h1;have:(List.range z.toNat).length=pre.length+(suf.length+1):=by rw[e];simp
   rw[qCG] at this;rw[List.getElem?_range (by omega)] at h1;exact(Option.some.inj h1).symm
  have hl:pre.length<z.toNat:=by
   have:(List.range z.toNat).length=pre.length+(suf.length+1):=by rw[e];simp
   rw[qCG] at this;omega
  unfold Af;rw[decide_eq_true (by simp;omega),hx];simp only[cond_true];rw[iB (by simpa using hb)];rfl⟩) (s0:=[]) (by rw[flatMap_one];simp;omega)
 rw[flatMap_one] at h;exact Ev.bind h (Ev.ret _)
theorem axl(es:List Str)(s:Str):Ev (fun n=>NC n es s) (gI (fun e=>s==e) 0 es):=by
 unfold NC;exact vI es (fun n k i=>acw n es s k i) (fun _ x=>some (s==x)) (fun e=>s==e) (fun n k i=>rfl) (fun x _=>Ev.ret _)
theorem ahf:∀(pre:List Carrier) (ps:List Int) (c:Carrier) (suf:List Carrier) (z:Int) (zs:List Int),pre.length=ps.length→Gz (pre++c::suf) (ps++z::zs)=true→YZ c z=false
 | [],[],c,suf,z,zs,_,h=>by
  simp only[qAt,Gz,qAa,qAF] at h;exact h.1
 | [],p::ps,_,_,_,_,hl,_=>by simp at hl
 | a::pre,[],_,_,_,_,hl,_=>by simp at hl
 | a::pre,p::ps,c,suf,z,zs,hl,h=>by
  simp only[qAM,Gz,qAa] at h;exact ahf pre ps c suf z zs (by simpa using hl) h.2
theorem ajk{c:Carrier}{z:Int}(h:YZ c z=false):1≤z∧z≤8∧((c.elems.length:Int)=0∨z=c.elems.length):=by
 unfold YZ at h;cases h1:decide (z<1) with
 | true=>rw[h1] at h;cases h
 | false=>
  cases h2:decide (8<z) with
  | true=>rw[h1,h2] at h;cases h
  | false=>
   rw[h1,h2] at h;have h1:=of_decide_eq_false h1;have h2:=of_decide_eq_false h2;cases h3:decide (0<(c.elems.length:Int)) with
   | false=>have:=of_decide_eq_false h3;exact⟨by omega,by omega,.inl (by omega)⟩
   | true=>rw[h3] at h;exact⟨by omega,by omega,.inr (by simpa using h)⟩
theorem aAh{env:Env}{sz:List Int}(h:rQ env sz=true):Gz env.carriers sz=true:=by
 unfold rQ at h;simp only[qAa] at h;exact h.2
theorem ajr(env:Env)(sz:List Int)(hf:rQ env sz=true)(s:Str):∀(suf:List Carrier) (zs:List Int) (pre:List Carrier) (ps:List Int),env.carriers=pre++suf→sz=ps++zs→pre.length=ps.length→suf.length=zs.length→
  ∃N,∀n,N≤n→∀k,suf.length+1≤k→U0 n env.carriers sz s k (pre.length:Int)=some (match R5 suf zs s with | some v=>.rt (.ok v) | none=>.nx ())
 | [],[],pre,ps,he,_,_,_=>by
  refine⟨0,fun n _ k hk=>?_⟩;obtain⟨j,rfl⟩:∃j,k=j+1:=⟨k - 1,by omega⟩;show Dz n env.carriers sz s _ _=_;unfold Dz;rw[decide_eq_false (by rw[he];simp)];rfl
 | [],z::zs,_,_,_,_,_,h=>by simp at h
 | c::suf,[],_,_,_,_,_,h=>by simp at h
 | c::suf,z::zs,pre,ps,he,hz,hp,hl=>by
  have hfit:=aAh hf;rw[he,hz] at hfit;obtain⟨z1,z2,_⟩:=ajk (ahf pre ps c suf z zs hp hfit);obtain⟨N1,h1⟩:=aBb c.name z (by omega) z2;obtain⟨N2,h2⟩:=axl c.elems s;obtain⟨N3,h3⟩:=ajr env sz hf s suf zs (pre++[c]) (ps++[z]) (by simp[he]) (by simp[hz]) (by simp[hp]) (by simpa using hl);refine⟨N1+N2+N3,fun n hn k hk=>?_⟩;obtain⟨j,rfl⟩:∃j,k=j+1:=⟨k - 1,by omega⟩;have h1:J4 n c.name z=_:=h1 n (by omega);have h2:NC n c.elems s=_:=h2 n (by omega);have h3:=h3 n (by omega) j (by simp at hk;omega);have hi:=(eD hz).2;rw[←hp] at hi;show Dz n env.carriers sz s (U0 n env.carriers sz s j) _=_;unfold Dz R5;rw[(eD he).1];simp only[cond_true,(eD he).2,qAb,hi,h1,h2];cases c.name==s
  ·cases decide (0≤gI (fun e=>s==e) 0 c.elems)
   ·rw[show(pre.length:Int)+1=((pre++[c]).length:Int) by simp];exact h3
   ·rfl
  ·rfl
theorem aoS(env:Env)(sz:List Int)(hf:rQ env sz=true)(hn:(env.carriers.map (·.name)).Nodup)(s:Str):∀(suf:List Carrier) (zs:List Int) (pre:List Carrier) (ps:List Int),env.carriers=pre++suf→sz=ps++zs→pre.length=ps.length→suf.length=zs.length→
  (match R5 suf zs s with | some v=>∃t,(s,t)∈suf.flatMap iL∧hasB env sz t v=true | none=>∀t,(s,t)∉suf.flatMap iL)
 | [],[],pre,ps,he,_,_,_=>by simp[R5]
 | [],z::zs,_,_,_,_,_,h=>by simp at h
 | c::suf,[],_,_,_,_,_,h=>by simp at h
 | c::suf,z::zs,pre,ps,he,hz,hp,hl=>by
  have hfit:=aAh hf;rw[he,hz] at hfit;obtain⟨z1,z2,z3⟩:=ajk (ahf pre ps c suf z zs hp hfit);have ih:=aoS env sz hf hn s suf zs (pre++[c]) (ps++[z]) (by simp[he]) (by simp[hz]) (by simp[hp]) (by simpa using hl);have hsz:ahT env sz c.name=z:=by
   have key:∀(q:List Carrier) (i:Int),(∀d∈q,d.name≠c.name)→gI (fun d:Carrier=>d.name==c.name) i (q++c::suf)=i+q.length:=by
    intro q
    induction q with
    | nil=>intro i _;simp[gI]
    | cons d q ihq=>
     intro i h;have h1:(d.name==c.name)=false:=by simpa using h d (by simp)
     rw[qAM,gI,h1,cond_false,ihq _ fun e he=>h e (by simp[he])];simp;omega
   unfold ahT;rw[he,key pre 0 (fun d hd hdc=>by
    rw[he,qAY,qBq] at hn;exact hn.2.2 d.name (qAA.2 ⟨d,hd,rfl⟩) c.name (by simp) hdc),Int.zero_add]
   have hi:=(eD hz).2;rw[←hp] at hi;rw[hi];rfl
  have hel:∀i:Int,0≤i→i<z→hasB env sz (wS c.name) (.mk 3 i c.name [])=true:=fun i h1 h2=>by
   rw[show hasB env sz (wS c.name) (.mk 3 i c.name [])=RD env sz c.name (.mk 3 i c.name []) by unfold wS hasB;rfl];unfold RD;simp[Val.kind,Val.name,Val.kids,Val.n,hsz,h1,h2]
  unfold R5;cases hc:(c.name==s) with
  | true=>
   have hc:=eq_of_beq hc;subst hc;refine⟨ak (wS c.name),by simp[iL],nL.2 ⟨_,rfl,⟨?_,?_⟩,fun x hx=>?_⟩⟩
   ·unfold elems;rw[qDp];refine List.Pairwise.imp (fun{a b} hab=>?_) qDF;show bH _ _<0;rw[Cy,Fy,Fy];exact .inr ⟨(pY 3 3).2 rfl,.inl ((ahv _ _).2 (by omega))⟩
   ·unfold elems;simp;omega
   ·unfold elems at hx;obtain⟨i,hi,rfl⟩:=qAA.1 hx;rw[qCc] at hi;exact hel i (by omega) (by omega)
  | false=>
   have hge:=vQ (fun e=>s==e) c.elems 0 (qBP _);simp only[cond_false];cases hd:decide (0≤gI (fun e=>s==e) 0 c.elems) with
   | true=>
    simp only[cond_true];rw[hd] at hge;obtain⟨e,he',hse⟩:=qCI.1 hge.symm;have hse:s=e:=eq_of_beq hse;refine⟨wS c.name,?_,hel _ (of_decide_eq_true hd) ?_⟩
    ·rw[qBb,qAn];exact .inl (qAl _ (qAA.2 ⟨e,he',by rw[hse]⟩))
    ·rcases EW (fun e=>s==e) c.elems [] with⟨x,_,_,g1,g2⟩ | ⟨_,g⟩
     ·simp only[qAK,qAt] at g1 g2;rw[show(((0:Nat):Int))=0 from rfl] at g1 g2;unfold idx at g2;rw[if_pos g1] at g2;have hlt:=(qAx.1 g2).1;rcases z3 with h | h<;>omega
     ·simp only[qAK] at g;rw[show(((0:Nat):Int))=0 from rfl] at g;have:=of_decide_eq_true hd;omega
   | false=>
    simp only[cond_false];rw[hd] at hge;have hno:∀t,(s,t)∉iL c:=fun t ht=>by
     unfold iL at ht;rcases qAg.1 ht with ht | ht
     ·cases ht;simp at hc
     ·obtain⟨e,he',hee⟩:=qAA.1 ht;cases hee;have:=qCF.1 hge.symm s he';simp at this
    cases hv:R5 suf zs s with
    | some v=>
     rw[hv] at ih;obtain⟨t,h1,h2⟩:=ih;exact⟨t,by rw[qBb,qAn];exact .inr h1,h2⟩
    | none=>
     rw[hv] at ih;intro t ht;rw[qBb,qAn] at ht;exact ht.elim (hno t) (ih t)
theorem ayJ(ds:List Decl)(vs:List Val)(h:vs.length=ds.length):((ds.zip vs).map fun q=>(q.1.name,q.2)).map (·.1)=ds.map (·.name):=by
 induction ds generalizing vs with
 | nil=>simp
 | cons d ds ih=>
  cases vs with
  | nil=>simp at h
  | cons v vs=>
   have:=ih vs (by simpa using h);simp only[qDh,qAu,this]
theorem atg{w:S_api_World}(h:nS w=true)(s:Str):dw (G8 w) s=dw ((w.env.names.zip w.values).map fun q=>(q.1.name,q.2)) s∧(((w.env.names.zip w.values).map fun q=>(q.1.name,q.2)).map (·.1)).Nodup:=by
 obtain⟨h1,h2,h3,h4⟩:=Kw h;have hn:(((w.env.names.zip w.values).map fun q=>(q.1.name,q.2)).map (·.1)).Nodup:=by
  rw[ayJ _ _ h3];have:=(iA h1).2.2.2.2;unfold names2 at this;exact(qBq.1 (qBq.1 this).2.1).2.1
 refine⟨?_,hn⟩;unfold G8;rw[NY _ _ _ hn,Kz];cases dw ((w.env.names.zip w.values).map fun q=>(q.1.name,q.2)) s<;>rfl
theorem aw4{env:Env}(h:aZ env=true):(env.carriers.map (·.name)).Nodup:=by
 have:=(iA h).2.2.2.2;unfold names2 at this;exact(qBq.1 this).1
theorem agq{w:S_api_World}(h:nS w=true)(s:Str)(t:Ty)(ht:look w.env s=some t):(∃v,dw (G8 w) s=some v∧iC w s=v∧hasB w.env w.sizes t v=true)∨(∃v,dw (G8 w) s=none∧R5 w.env.carriers w.sizes s=some v∧iC w s=v∧hasB w.env w.sizes t v=true):=by
 obtain⟨h1,h2,h3,h4⟩:=Kw h;obtain⟨hf,hn⟩:=atg h s;have un:∀t',(s,t')∈pW w.env→t'=t:=fun t' h'=>by
  have:=(EF h1).2 h';rw[ht] at this;exact(Option.some.inj this).symm
 unfold iC;cases hm:dw (G8 w) s with
 | some v=>
  refine .inl ⟨v,rfl,rfl,?_⟩;rw[hf] at hm;rw[yh _ _ _ hn] at hm;obtain⟨q,hq,hqe⟩:=qAA.1 hm;cases hqe;have:=un q.1.ty (by unfold pW;rw[qAn];exact .inr (qAA.2 ⟨q.1,(qCZ (show(q.1,q.2)∈w.env.names.zip w.values from hq)).1,rfl⟩));rw[←this];exact h4 q hq
 | none=>
  have hc:=aoS w.env w.sizes h2 (aw4 h1) s w.env.carriers w.sizes [] [] rfl rfl rfl (Rn h2).symm;cases hv:R5 w.env.carriers w.sizes s with
  | some v=>
   rw[hv] at hc;obtain⟨t',h5,h6⟩:=hc;have:=un t' (by unfold pW;rw[qAn];exact .inl h5);subst this;exact .inr ⟨v,rfl,rfl,rfl,h6⟩
  | none=>
   exfalso;rw[hv] at hc;have ht:=(EF h1).1 ht;unfold pW at ht;rcases qAn.1 ht with ht | ht
   ·exact hc t ht
   ·obtain⟨d,hd,hde⟩:=qAA.1 ht;cases hde;rw[hf] at hm;obtain⟨i,hi,rfl⟩:=qBB hd;have hz:(w.env.names[i],w.values[i]'(by omega))∈w.env.names.zip w.values:=by
     rw[qBH];exact⟨i,by simp;omega,by simp⟩
    have:=(yh ((w.env.names.zip w.values).map fun q=>(q.1.name,q.2)) w.env.names[i].name (w.values[i]'(by omega)) hn).2 (qAA.2 ⟨_,hz,rfl⟩);rw[hm] at this;cases this
theorem ai0{w:S_api_World}(h:nS w=true):GOk w.env w.sizes (iC w):=fun s t ht=>by
 rcases agq h s t ht with⟨v,_,e,h1⟩ | ⟨v,_,_,e,h1⟩<;>rw[e]<;>exact h1
theorem aBO{w:S_api_World}(h:nS w=true):LkE w.env w.env.carriers w.env.names w.sizes (G8 w) (iC w):=fun s t ht b=>by
 obtain⟨h1,h2,_⟩:=Kw h;unfold aa7;rcases agq h s t ht with⟨v,e1,e2,_⟩ | ⟨v,e1,e2,e3,_⟩
 ·refine Ev.of fun n=>?_;rw[e1,e2];simp only[qAb,cond_true,ail]
 ·obtain⟨N,hN⟩:=ajr w.env w.sizes h2 s w.env.carriers w.sizes [] [] rfl rfl rfl (Rn h2).symm;refine⟨N+w.env.carriers.length+1,fun n hn=>?_⟩;have:=hN n (by omega) n (by omega);rw[e2] at this;dsimp only;rw[e1,e3];simp only[qAb,cond_false];rw[show((([]:List Carrier).length:Nat):Int)=0 from rfl] at this;rw[this];rfl
theorem ajh{w:S_api_World}(h:nS w=true):Ev (fun n=>JW n w) (w.env.carriers,w.env.names,w.sizes,G8 w,[]):=by
 obtain⟨h1,h2,h3,h4⟩:=Kw h;have hn64:=(iA h1).2.1;have hl:(w.env.names.zip w.values).length=w.env.names.length:=by rw[qDC];omega
 have e:=Zk (ρ:=(List Carrier)×(List Decl)×(List Int)×(List (Str×Val))×(List Bound)) (w.env.names.zip w.values) (fun n=>Aq n w) (fun i s=>(i,s)) (fun q s=>.nx (jX s q.1.name q.2)) (fun s=>s) (fun suf s=>s.length+suf.length≤1000) (fun n rec s=>by
  unfold Aq;rw[hl,at_end];rfl) (fun pre q suf s e hI=>⟨⟨0,fun n hn rec=>by
  simp only[qAm] at hI;have hpl:pre.length<w.env.names.length:=by rw[←hl,e];simp
  have hg:=congrArg (fun l=>l[pre.length]?) e;simp only[qAk (qAd _),qCX,qAD] at hg;rw[qAc (by omega),List.getElem_zip] at hg;have hg:=Option.some.inj hg;unfold Aq;rw[decide_eq_true (by simp;omega)];have i1:idx w.env.names (pre.length:Int)=some q.1:=by
   unfold idx;rw[if_pos (by omega),qBm,qAc hpl,←hg]
  have i2:idx w.values (pre.length:Int)=some q.2:=by
   unfold idx;rw[if_pos (by omega),qBm,qAc (by omega),←hg]
  simp only[cond_true,i1,i2,qAb];rw[I4 (by omega)];rfl⟩,fun s' hs'=>by
   cases hs';have:=AU s q.1.name q.2;simp only[qAm] at hI;omega⟩) (s0:=[]) (by simp only[qAK,hl];omega)
 rw[UQ (ρ:=(List Carrier)×(List Decl)×(List Int)×(List (Str×Val))×(List Bound)) (fun(s:List (Str×Val)) (q:Decl×Val)=>jX s q.1.name q.2)] at e;have e2:(w.env.names.zip w.values).foldl (fun(s:List (Str×Val)) (q:Decl×Val)=>jX s q.1.name q.2) []=G8 w:=by
  unfold G8 fA;rw[List.foldl_map]
 rw[e2] at e;exact Ev.bind e (Ev.ret _)
end
section
open Go
theorem Zx{env:Env}{sz:List Int}{t:Ty}(h:Good t):∀v,hasB env sz t v=true→qh v:=by
 have leaf:∀v:Val,v.kids=[]→qh v:=fun v e=>by
  obtain⟨k,n,s,ks⟩:=v;have e:ks=[]:=e;subst e;simp[qh,Gu]
 have all:∀l:List Val,(∀v∈l,qh v)→Gu l:=by
  intro l
  induction l with
  | nil=>intro _;simp[Gu]
  | cons a l ih=>intro h;exact⟨h a (by simp),ih fun v hv=>h v (by simp[hv])⟩
 induction h with
 | int=>intro v h;obtain⟨n,rfl,_⟩:=Nr.1 h;exact leaf _ rfl
 | car nm=>
  intro v h;rw[show hasB env sz (wS nm) v=RD env sz nm v by unfold wS hasB;rfl] at h;unfold RD at h;simp only[qAa,beq_iff_eq] at h;exact leaf v (qAw.1 (by omega))
 | pair ha hb iha ihb=>
  intro v h;obtain⟨x,y,rfl,h1,h2⟩:=Ih.1 h;exact⟨by simp,all _ (by simp only[qAg,qCK,or_false];rintro v (rfl | rfl);exact iha _ h1;exact ihb _ h2)⟩
 | set ha ih=>
  intro v h;obtain⟨l,rfl,h1,h2⟩:=nL.1 h;exact⟨by have:=h1.2;omega,all l fun v hv=>ih v (h2 v hv)⟩
theorem ayQ{env:Env}{sz:List Int}{t:Ty}(h:Top t)(v:Val)(hv:hasB env sz t v=true):qh v:=by
 rcases h with rfl | h
 ·obtain⟨b,rfl⟩:=ant.1 hv;cases b<;>simp[gH,qh,Gu]
 ·exact Zx h v hv
theorem awG{cs:List Carrier}{ds:List Decl}{sz:List Int}{m:List (Str×Val)}{g:Str→Val}{t:Tm}(h:lq cs ds sz m g t []):Ev (fun n=>mV n cs ds sz m [] t) (match aI g t [] with | .ok v=>(v,0,[]) | .er e=>(v0,e,[])):=by
 unfold lq at h;unfold mV;cases hr:aI g t [] with
 | ok v=>rw[hr] at h;exact Ev.bind h (Ev.ret _)
 | er e=>
  rw[hr] at h;obtain⟨he,z,hz⟩:=h;refine Ev.bind hz (Ev.of fun n=>?_);have e1:(decide ((0:Int)≤e)&&decide (e≤1000))=true:=by rcases he with rfl | rfl<;>rfl
  simp only[PZ.el,e1,cond_true];unfold Dm;rw[if_pos ⟨by simp,by simp⟩];rfl
def Ab(w:S_api_World)(t:Tm):Val×Int:=match aI (iC w) t [] with | .ok v=>(v,0) | .er e=>(v0,e)
def qm(w:S_api_World)(t:Tm):Val×Int:=cond (nS w&&jN t) (cond ((iU w.env t).2.2 !=0) (v0,(iU w.env t).2.2) (Ab w t)) (v0,1)
def sH(w:S_api_World)(t:Tm):Bool×Int:=cond (nS w&&jN t) (cond (JJ w.env t !=0) (false,JJ w.env t) (cond ((Ab w t).2==0) ((Ab w t).1.n==1,(Ab w t).2) (false,(Ab w t).2))) (false,1)
theorem Vr{w:S_api_World}{t:Tm}(hw:nS w=true)(hv:jN t=true)(h:(iU w.env t).2.2=0):∃ty,(iU w.env t).1=ty∧Top ty∧HT w.env [] t ty∧gJ w.env [] t=.ok ty:=by
 obtain⟨h1,_⟩:=Kw hw;unfold iU at h⊢;rw[h1,hv] at h⊢;cases ht:gJ w.env [] t with
 | er e p=>rw[ht] at h;exact absurd h (Np t [] e p ht)
 | ok ty=>exact⟨ty,rfl,yV h1 SK ht,aEZ h1 t 1 [] ty (NP hv) SK ht,rfl⟩
theorem aoT{w:S_api_World}{t:Tm}{ty:Ty}(hw:nS w=true)(hv:jN t=true)(ht:HT w.env [] t ty):lq w.env.carriers w.env.names w.sizes (G8 w) (iC w) t []:=
 (aBo (ai0 hw) (aBO hw) t).1 1 [] ty [] (NP hv) ht .nil (by simp)
theorem SN{w:S_api_World}{t:Tm}{ty:Ty}{v:Val}(hw:nS w=true)(ht:HT w.env [] t ty)(h:aI (iC w) t []=.ok v):hasB w.env w.sizes ty v=true:=sound (ai0 hw) t [] ty [] v ht .nil h
theorem T9(w:S_api_World)(t:Tm)(hs:ZC w.env)(hS:CW t):Ev (fun n=>kU n w t) (qm w t):=by
 unfold kU qm;refine Ev.bind (a:=!(nS w&&jN t)) ?_ ?_
 ·refine Ev.bind (WV w hs) ?_;cases nS w with
  | false=>exact Ev.ret _
  | true=>exact Ev.bind (LG t hS) (Ev.ret _)
 ·cases hq:(nS w&&jN t) with
  | false=>exact Ev.ret _
  | true=>
   rw[qAa] at hq;refine Ev.bind (NM w.env t hs hS) ?_;cases he:((iU w.env t).2.2 !=0) with
   | true=>exact Ev.ret _
   | false=>
    obtain⟨ty,h1,h2,h3,_⟩:=Vr hq.1 hq.2 (by simpa using he);refine Ev.bind (ajh hq.1) (Ev.bind (awG (aoT hq.1 hq.2 h3)) ?_);unfold Ab;cases hr:aI (iC w) t [] with
    | ok v=>exact Ev.bind (YP v (ayQ h2 v (SN hq.1 h3 hr))) (Ev.ret _)
    | er e=>exact Ev.bind (YP v0 (by simp[v0,qh,Gu])) (Ev.ret _)
theorem ac2(w:S_api_World)(t:Tm)(hs:ZC w.env)(hS:CW t):Ev (fun n=>kE n w t) (sH w t):=by
 unfold kE sH;refine Ev.bind (a:=!(nS w&&jN t)) ?_ ?_
 ·refine Ev.bind (WV w hs) ?_;cases nS w with
  | false=>exact Ev.ret _
  | true=>exact Ev.bind (LG t hS) (Ev.ret _)
 ·cases hq:(nS w&&jN t) with
  | false=>exact Ev.ret _
  | true=>
   rw[qAa] at hq;refine Ev.bind (X8 w.env t hs hS) ?_;cases he:(JJ w.env t !=0) with
   | true=>exact Ev.ret _
   | false=>
    have he:JJ w.env t=0:=by simpa using he
    have h0:(iU w.env t).2.2=0:=by
     unfold JJ at he;cases hc:((iU w.env t).2.2==0&&(iU w.env t).1.kind !=2) with
     | true=>rw[hc] at he;cases he
     | false=>rw[hc] at he;exact he
    obtain⟨ty,h1,h2,h3,_⟩:=Vr hq.1 hq.2 h0;refine Ev.bind (ajh hq.1) ?_;unfold eval_interp_holds;refine Ev.bind (g:=fun(x3:Bool×Int×List Bound) _=>some (x3.1,x3.2.1)) (a:=(cond ((Ab w t).2==0) ((Ab w t).1.n==1,(Ab w t).2,[]) (false,(Ab w t).2,[]))) (Ev.bind (awG (aoT hq.1 hq.2 h3)) (Ev.of fun n=>?_)) (Ev.of fun n=>?_)
    ·unfold Ab;cases aI (iC w) t [] with
     | ok v=>rfl
     | er e=>simp only;cases e==0<;>rfl
    ·cases(Ab w t).2==0<;>rfl
end
section
open Go
theorem aAQ:∀t:Tm,∃c,Ev (fun n=>IQ n t) c:=Tm.ind fun op nm k u ks ih=>by
 have hz:∀x:Tm,∃c,x∈ks→Ev (fun n=>IQ n x) c:=fun x=>by
  by_cases h:x∈ks
  ·obtain⟨c,hc⟩:=ih x h;exact⟨c,fun _=>hc⟩
  ·exact⟨0,fun h'=>absurd h' h⟩
 obtain⟨cf,hcf⟩:=qCD hz
 let f:Int→Tm→Int:=fun i x=>cond (dx op&&i==1) (IntKind.wrap .i64 (cf x*64)) (cf x)
 have key:∀(suf pre:List Tm) (s:Int),ks=pre++suf→∃r,∃N,∀n,N≤n→∀j,suf.length+1≤j→V4 n (fun p0=>IQ n p0) (.mk op nm k u ks) j (s,(pre.length:Int))=some r:=by
  intro suf
  induction suf with
  | nil=>
   intro pre s hp;refine⟨.nx s,0,fun n _ j hj=>?_⟩;obtain⟨j,rfl⟩:∃q,j=q+1:=⟨j - 1,by omega⟩;show DJ n _ (.mk op nm k u ks) _ _=_;unfold DJ;have e:decide ((pre.length:Int)<(ks.length:Int))=false:=decide_eq_false (by rw[hp];simp);show cond (decide ((pre.length:Int)<(ks.length:Int))) _ _=_;rw[e];rfl
  | cons x suf ihs=>
   intro pre s hp;obtain⟨N,hN⟩:=hcf x (by rw[hp];simp);obtain⟨r,M,hM⟩:=ihs (pre++[x]) (IntKind.wrap .i64 (s+f (pre.length:Int) x)) (by simp[hp]);refine⟨cond (decide (20000000<IntKind.wrap .i64 (s+f (pre.length:Int) x))) (.rt 20000001) r,N+M,fun n hn j hj=>?_⟩;obtain⟨j,rfl⟩:∃q,j=q+1:=⟨j - 1,by omega⟩;have hN:IQ n x=_:=hN n (by omega);have hM:=hM n (by omega) j (by simp at hj;omega);show DJ n _ (.mk op nm k u ks) (V4 n _ (.mk op nm k u ks) j) _=_;unfold DJ;show cond (decide ((pre.length:Int)<(ks.length:Int))) (Option.bind (idx ks (pre.length:Int)) _) _=_;rw[(eD hp).1,(eD hp).2];simp only[cond_true,qAb,hN,Zz,Tm.op];have e:(((cond (dx op) (some ((pre.length:Int)==1)) (some false)).bind fun(s4:Bool)=>cond s4 (some (IntKind.wrap .i64 (cf x*64))) (some (cf x))):Option Int)=some (f (pre.length:Int) x):=by
    show _=some (cond (dx op&&(pre.length:Int)==1) _ _);cases dx op<;>cases(pre.length:Int)==1<;>rfl
   rw[e];simp only[qAb];cases decide (20000000<IntKind.wrap .i64 (s+f (pre.length:Int) x)) with
   | true=>rfl
   | false=>
    simp only[cond_false];rw[show(pre.length:Int)+1=((pre++[x]).length:Int) by simp];exact hM
 obtain⟨r,N,h⟩:=key ks [] 1 rfl;refine⟨match r with | .nx s=>s | .rt s=>s,Ev.succ ⟨N+ks.length+1,fun n hn=>?_⟩⟩;show O9 n _ (.mk op nm k u ks)=_;unfold O9;rw[show(0:Int)=(([]:List Tm).length:Int) from rfl,h n (by omega) n (by omega)];cases r<;>rfl
theorem ao9(t:Tm):∃b,Ev (fun n=>oI n t) b:=by
 obtain⟨c,hc⟩:=aAQ t;refine⟨cond (jN t) (decide (c≤20000000)) true,?_⟩;unfold oI;refine Ev.bind (Ev.bind (acC t) ?_) (Ev.ret _);cases jN t with
 | false=>exact Ev.ret _
 | true=>exact Ev.bind hc (Ev.ret _)
theorem aya(env:Env):∃b,Ev (fun n=>yJ n env) b:=by
 refine⟨decide ((env.carriers.length:Int)≤100)&&decide ((env.names.length:Int)≤100),Ev.of fun n=>?_⟩;unfold yJ;cases decide ((env.carriers.length:Int)≤100)<;>rfl
theorem VZ:Ev (fun n=>(iG n).bind fun x=>some x) true:=Ev.bind (a:=true) (Ev.ret _) (Ev.ret _)
theorem arL(a b:Val):Ev (fun n=>fq n a b) (qp a b):=aaf a b
theorem asU(a b:Val):qp a b=true↔a=b:=by unfold qp;rw[beq_iff_eq,fK]
structure Vald(w:S_api_World)(t:Tm)(ty:Ty)(v:Val):Prop where
 hw:nS w=true
 hm:jN t=true
 ht:HT w.env [] t ty
 hp:Top ty
 he:aI (iC w) t []=.ok v
 hx:qm w t=(v,0)
theorem avr{w:S_api_World}{t:Tm}{ty:Ty}(hw:nS w=true)(hv:jN t=true)(ht:HT w.env [] t ty):Er (aI (iC w) t []):=(aoT hw hv ht).er
theorem Ki{w:S_api_World}{t:Tm}(h:(qm w t).2=0):∃ty v,Vald w t ty v:=by
 unfold qm at h;cases hq:(nS w&&jN t) with
 | false=>rw[hq] at h;cases h
 | true=>
  rw[hq] at h;rw[qAa] at hq;cases he:((iU w.env t).2.2 !=0) with
  | true=>rw[he] at h;simp only[bne_iff_ne,ne_eq] at he;exact absurd h he
  | false=>
   obtain⟨ty,h1,h2,h3,_⟩:=Vr hq.1 hq.2 (by simpa using he);rw[he] at h;cases hr:aI (iC w) t [] with
   | er e=>
    have:=avr hq.1 hq.2 h3 e hr;have h:(Ab w t).2=0:=h;unfold Ab at h;rw[hr] at h;have h:e=0:=h;omega
   | ok v=>
    refine⟨ty,v,hq.1,hq.2,h3,h2,hr,?_⟩;unfold qm Ab;rw[hq.1,hq.2,he,hr];rfl
theorem holds_zero{w:S_api_World}{t:Tm}(h:(sH w t).2=0):nS w=true∧jN t=true∧HT w.env [] t aV∧∃v,aI (iC w) t []=.ok v∧sH w t=(v.n==1,0):=by
 unfold sH at h;cases hq:(nS w&&jN t) with
 | false=>rw[hq] at h;cases h
 | true=>
  rw[hq] at h;rw[qAa] at hq;cases he:(JJ w.env t !=0) with
  | true=>rw[he] at h;simp only[bne_iff_ne,ne_eq] at he;exact absurd h he
  | false=>
   rw[he] at h;have hp:JJ w.env t=0:=by simpa using he
   have hk:(iU w.env t).2.2=0∧(iU w.env t).1.kind=2:=by
    unfold JJ at hp;cases hc:((iU w.env t).2.2==0&&(iU w.env t).1.kind !=2) with
    | true=>rw[hc] at hp;cases hp
    | false=>
     rw[hc] at hp;have hp:(iU w.env t).2.2=0:=hp;rw[hp] at hc;exact⟨hp,by simpa using hc⟩
   obtain⟨ty,h1,h2,h3,_⟩:=Vr hq.1 hq.2 hk.1;rw[h1] at hk;have hb:ty=aV:=by
    rcases h2 with h | h
    ·exact h
    ·cases h<;>simp[bY,wS,aK,ak,Ty.kind] at hk
   subst hb;refine⟨hq.1,hq.2,h3,?_⟩;cases hr:aI (iC w) t [] with
   | er e=>
    exfalso;have:=avr hq.1 hq.2 h3 e hr;have e0:(Ab w t).2=e:=by unfold Ab;rw[hr]
    rw[e0] at h;rcases this with rfl | rfl<;>cases h
   | ok v=>
    refine⟨v,rfl,?_⟩;unfold sH Ab;rw[hq.1,hq.2,he,hr];rfl
theorem amP(b:Bool):((gH b).n==1)=b:=by cases b<;>rfl
abbrev wQ(op:Int)(a b:Tm):Tm:=.mk op [] 0 (.mk 0 [] []) [a,b]
end
end Abs
end Go.Proofs.YtneeginmfjageaaGreat

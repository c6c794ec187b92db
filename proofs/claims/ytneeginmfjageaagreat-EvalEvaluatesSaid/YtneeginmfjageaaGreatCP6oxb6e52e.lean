/- Environments. Conditions: none. -/
import Derived.Test.YtneeginmfjageaaGreatCHaxox84b769
set_option linter.all false
namespace Go.Proofs.YtneeginmfjageaaGreat
namespace Abs
open Go
def iJ{e:Env}(h:aW e=true):e.carriers.length<=8/\e.names.length<=64/\e.carriers.all OE=true/\e.names.all (EF e)=true/\(names2 e).Nodup:=by
 simp only[aW,qAa,ahz]at h
 grind
def Po{e:Env}(h:aW e=true){d:Decl}(a:d∈e.names):named d.name=true/\bA d.ty=true/\zU 2 d.ty=false/\(dX d.ty).all (dP e)=true:=by
 have:=qAP.1 (iJ h).2.2.2.1 d a;simp only[EF]at this
 grind
def NJ{e:Env}(h:aW e=true){c:Carrier}(a:c∈e.carriers):ident c.name=true/\c.elems.length<=8/\c.elems.all ident=true:=by
 have:=qAP.1 (iJ h).2.2.1 c a;simp only[OE]at this
 grind
def nD(s:Str):Ty:=.mk 3 s []
def au(t:Ty):Ty:=.mk 5 [] [t]
def kR(c:Carrier):List (Str×Ty):=(c.name,au (nD c.name))::c.elems.map λe=>(e,nD c.name)
def wK(e:Env):List (Str×Ty):=e.carriers.flatMap kR++e.names.map λd=>(d.name,d.ty)
def aqz(n:Env):List (Str×Ty):=(n.names.map λd=>(d.name,d.ty))++((n.carriers.map λc=>(c.name,au (nD c.name)))++n.carriers.flatMap λc=>c.elems.map λe=>(e,nD c.name))
def look(e:Env)(s:Str):B7:=dn (aqz e) s
def ah1(e:Env):(wK e).Perm (aqz e):=by
 refine List.Perm.trans ?_ qDA;refine qCy _ ?_;generalize e.carriers=s
 induction s with|nil=>simp|cons c s i=>simp;refine List.Perm.cons _ ?_;refine(List.Perm.append_left _ i).trans ?_;rw[<-qAm,<-qAm];exact qCy _ qDA
def afv(e:Env):(wK e).map (·.1)=JM e:=by
 simp only[wK,qBj,qBh,List.map_flatMap,kR];congr 1
 congr 1;simp[qCv]
def DJ{e:Env}(h:aW e=true):((wK e).map (·.1)).Nodup:=by rw[afv,(PL e).nodup_iff];exact(iJ h).2.2.2.2
def Ae{e:Env}(h:aW e=true){s:Str}{t:Ty}:look e s=some t↔(s,t)∈wK e:=by unfold look;rw[<-aiS (ah1 e) (DJ h),qY _ _ _ (DJ h)]
def aBb{v:Env}(h:aW v=true):Ev (λn=>Kh n v) (gI (wK v) []):=by
 let⟨G,D,_,_,_⟩:=iJ h;unfold Kh;have q:∀(c:Carrier) (m:List (Str×Ty)),c.elems.length<=8->m.length<=10000->Ev (λn=>wE n c n (0,m)) (.nx (gI (c.elems.map λe=>(e,nD c.name)) m)):=λc m H N=>by
  have j:=oZ (ρ:=List (Str×Ty)) c.elems (λn k i s=>wE n c k (i,s)) (λn x s=>yG s x (nD c.name)) (λx s=>lJ s x (nD c.name)) (λs=>s) (λu s=>s.length+u.length<=10008)
   (λn k i s=>rfl)
   (λx u s t o=>by
    simp only[qAp]at o;refine⟨?_,?_⟩;·rw[LX Cl];exact Cu
    have:=Dh s x (nD c.name);omega) (s0:=m) Cl
  have I:∀(l:Bk) (m:List (Str×Ty)),l.foldl (λs x=>lJ s x (nD c.name)) m=gI (l.map λe=>(e,nD c.name)) m:=by
   intro l
   induction l with|nil=>intro m;rfl|cons e l g=>intro m;rw[qBg,g];rfl
  rw[I]at j;exact j
 have j:=V3 v.carriers (λn k i s=>TJ n v k (i,s)) (λn x s=>(yG s x.name (au (nD x.name))).bind λJ=>(wE n x n (0,J)).bind (LR.el (λK=>some (.nx K)) (λr=>some (.rt r)))) (λx s=>.nx (gI (kR x) s)) (λs=>s)
  (λu s=>s.length+9*u.length<=100)
  (λn k i s=>by
   show cond _ _ _=_;congr 1;show(idx v.carriers i).bind _=_;congr 1;funext x;show(yG s x.name (au (nD x.name))).bind _=_;cases yG s x.name (au (nD x.name))with|none=>rfl|some y=>simp only[qAb];cases wE n x n (0,y)with|none=>rfl|some r=>cases r<;>rfl)
  (λx u s t o=>by
   simp only[qAp]at o;have w:=(NJ h t).2.1;refine⟨?_,λO L=>?_⟩;·rw[LX Cl];simp only[qAb];have:=Dh s x.name (au (nD x.name));exact e_0 (q x _ w Cl) Cu
   cases L;have:=PK (kR x) s;simp only[kR,qAp,qAi]at this|-;omega) (s0:=([]:List (Str×Ty))) (by simp only[qAA];omega)
 rw[adk]at j;have z:∀(f:A7) (m:List (Str×Ty)),f.foldl (λs x=>gI (kR x) s) m=gI (f.flatMap kR) m:=by
  intro f
  induction f with|nil=>intro m;rfl|cons c f g=>intro m;rw[qBg,g,qBf,Zt]
 rw[z]at j;have M:(gI (v.carriers.flatMap kR) []).length<=100:=by
  have A:∀f:A7,(∀c∈f,c.elems.length<=8)->(f.flatMap kR).length<=9*f.length:=by
   intro f
   induction f with|nil=>intro _;simp|cons c f g=>intro E;have a:=E c (qBB ..);have b:=g λc B=>E c (qAk _ B);simp only[qBf,qAe,kR,qAp,qAi]at b|-;omega
  have a:=A v.carriers λc B=>(NJ h B).2.1;have b:=PK (v.carriers.flatMap kR) [];simp only[qAA]at b;omega
 have F:=oZ (ρ:=List (Str×Ty)) v.names (λn k i s=>Ug n v k (i,s)) (λn x s=>yG s x.name x.ty) (λx s=>lJ s x.name x.ty) (λs=>s) (λu s=>s.length+u.length<=1000)
  (λn k i s=>rfl)
  (λx u s t o=>by
   simp only[qAp]at o;refine⟨?_,?_⟩;·rw[LX Cl];exact Cu
   have:=Dh s x.name x.ty;omega) (s0:=gI (v.carriers.flatMap kR) []) Cl
 have C:∀(p:A4) (m:List (Str×Ty)),p.foldl (λs x=>lJ s x.name x.ty) m=gI (p.map λd=>(d.name,d.ty)) m:=by
  intro p
  induction p with|nil=>intro m;rfl|cons e l g=>intro m;rw[qBg,g];rfl
 rw[C,<-Zt]at F;exact e_0 j (e_0 F Cu)
def bH:Ty:=.mk 0 [] []
def ax2(e:Env)(s:Str):Ty×Bool:=match look e s with|some t=>(t,true)|none=>(bH,false)
def SA{α:Type}(a b:List (Str×α))(k:Str):dn (a++b) k=(match dn a k with|some v=>some v|none=>dn b k):=by
 induction a with|nil=>rfl|cons p a i=>
  rw[qAM,mg,mg]
  grind
def UQ{α β:Type}(f:α->Str)(g:α->β)(l:List α)(k:Str):dn (l.map λx=>(f x,g x)) k=(l.find? λx=>f x==k).map g:=by
 induction l with|nil=>rfl|cons x l i=>
  rw[qAy,mg,qCd,i]
  grind
def axP(cs:A7)(k:Str):dn (cs.flatMap λc=>c.elems.map λe=>(e,nD c.name)) k=(cs.find? λc=>c.elems.any (·==k)).map λc=>nD c.name:=by
 induction cs with|nil=>rfl|cons c cs i=>rw[qBf,SA,qCd,i];rw[UQ (λe=>e) (λ_=>nD c.name)];cases h:c.elems.find? (λe=>e==k)with|none=>grind|some e=>grind
def Qd(s:Str):Int->A7->Int×Int|_,[]=>(-1, -1)|i,c::a=>cond (c.elems.any (·==s)) (i,dR (·==s) 0 c.elems) (Qd s (i+1) a)
def amY(s:Str):∀(cs:A7) (i:Int),(Qd s i cs).1=dR (λc=>c.elems.any (·==s)) i cs
 |[],_=>rfl
 |c::cs,i=>by
  simp only[Qd,dR];cases c.elems.any (·==s)
  ·exact amY s cs (i+1)
  rfl
def VE(e:Env)(s:Str):Ev (λn=>uJ n e s) (Qd s 0 e.carriers):=by
 unfold uJ;have h:∀(i:Int) (c:Carrier),idx e.carriers i=some c->Ev (λn=>sZ n e s i n 0) (cond (c.elems.any (·==s)) (.rt (i,dR (·==s) 0 c.elems)) (.nx ())):=λi c a=>by
  have q:=Qk c.elems (λn k j (_:Unit)=>sZ n e s i k j) (λ_ j x _=>some (cond (x==s) (.rt (i,j)) (.nx ()))) (λj x _=>cond (x==s) (.rt (i,j)) (.nx ())) (λ_=>()) (λ_ _ _=>True)
   (λn k j _=>by
    show(idx e.carriers i).bind _=_;rw[a,qAb];congr 1;rw[qAb];congr 1;funext x;cases x==s<;>rfl)
   (λj x u _ f _=>⟨Ev.ret _,λ_ _=>trivial⟩) (s0:=()) trivial
  have y:∀(l:Bk) (j:Int),lu (τ:=Unit) (λj x _=>cond (x==s) (.rt (i,j)) (.nx ())) (λ_=>()) j l ()=cond (l.any (·==s)) (.rt (i,dR (·==s) j l)) (.nx ()):=by
   intro l
   induction l with
   |nil=>intro j;rfl
   |cons x l b=>
    intro j;simp only[lu,qCA,dR];cases x==s with
    |true=>rfl
    |false=>exact b (j+1)
  grind
 have g:=Qk e.carriers (λn k i (_:Unit)=>OX n e s k i) (λn i _ _=>sZ n e s i n 0) (λi c _=>cond (c.elems.any (·==s)) (.rt (i,dR (·==s) 0 c.elems)) (.nx ())) (λ_=>()) (λi u _=>∃p,e.carriers=p++u/\i=(p.length:Int))
  (λn k i _=>by
   show cond _ _ _=_;congr 1;cases a:idx e.carriers i with
   |none=>
    have:sZ n e s i n 0=none:=by
     cases n with
     |zero=>rfl
     |succ m=>
      show(idx e.carriers i).bind _=none;rw[a];rfl
    simp_all
   |some x=>rfl)
  (λi x u _ f o=>by
   obtain⟨p,d,rfl⟩:=o;exact⟨h _ x (by rw[d];exact gJ p x u),λ_ _=>⟨p++[x],by rw[d];simp,by simp⟩⟩) (s0:=()) ⟨[],rfl,rfl⟩
 refine e_0 g ?_;have y:∀(l:A7) (i:Int),(match lu (τ:=Unit) (λi (c:Carrier) _=>cond (c.elems.any (·==s)) (.rt (i,dR (·==s) 0 c.elems)) (.nx ())) (λ_=>()) i l ()with| .nx _=>((-1, -1):Int×Int)| .rt r=>r)=Qd s i l:=by
  intro l
  induction l with
  |nil=>intro i;rfl
  |cons c l b=>
   intro i;simp only[lu,Qd];cases c.elems.any (·==s)with
   |true=>rfl
   |false=>exact b (i+1)
 rw[<-y e.carriers 0];generalize lu (τ:=Unit) (λi (c:Carrier) _=>cond (c.elems.any (·==s)) (.rt (i,dR (·==s) 0 c.elems)) (.nx ())) (λ_=>()) 0 e.carriers ()=R;cases R
 ·exact Cu
 exact Cu
def afg(e:Env)(s:Str):Ev (λn=>FU n e s) (dR (λd=>d.name==s) 0 e.names):=by exact vo e.names (λn k i=>VY n e s k i) (λ_ x=>some (x.name==s)) (λc=>c.name==s) (λn k i=>rfl) (λx _=>Ev.ret _)
def VI(v:Env)(s:Str):Ev (λn=>(FU n v s).bind λ(g:Int)=>cond (decide (0<=g)) ((idx v.names g).bind λ(j:Decl)=>some (j.ty,true)) ((nT n v s).bind λ(k:Int)=>cond (decide (0<=k)) (some ((Ty.mk 5 ([]:Str) ([(Ty.mk 3 s ([]))])),true)) ((uJ n v s).bind λ(i:Int×Int)=>cond (decide (0<=i.1)) ((idx v.carriers i.1).bind λ(l:Carrier)=>some ((Ty.mk 3 l.name ([])),true)) (some ((Ty.mk 0 ([]:Str) ([])),false))))) (ax2 v s):=by
 refine e_0 (afg v s) ?_;unfold ax2 look aqz;rw[SA,SA,UQ (λd:Decl=>d.name) (λd=>d.ty),UQ (λc:Carrier=>c.name) (λc=>au (nD c.name)),axP];rcases Dw (λd:Decl=>d.name==s) v.names []with⟨x,a,h,b,f⟩|⟨a,h⟩
 ·simp only[qAA,qBY,qAo]at b f;rw[a,d_1 b,f];exact Cu
 simp only[qAA,qBY]at h;rw[a,h];simp only[show decide ((0:Int)<= -1)=false from rfl,c_0,qBS];refine e_0 (DX v s) ?_;rcases Dw (λc:Carrier=>c.name==s) v.carriers []with⟨x,a,h,b,f⟩|⟨a,h⟩
 ·simp only[qAA,qBY,qAo]at b f;rw[a,d_1 b];have e:x.name=s:=by simpa using h
  subst e;exact Cu
 simp only[qAA,qBY]at h;rw[a,h];simp only[show decide ((0:Int)<= -1)=false from rfl,c_0,qBS];refine e_0 (VE v s) ?_;rw[amY];rcases Dw (λc:Carrier=>c.elems.any (·==s)) v.carriers []with⟨x,a,h,b,f⟩|⟨a,h⟩
 ·simp only[qAA,qBY,qAo]at b f;rw[a,d_1 b,f];exact Cu
 simp only[qAA,qBY]at h;rw[a,h];exact Cu
def avm{α β b:Type}(l:List α)(a:List β)(i:Int)(F:α->β->Option b):((idx l i).bind λx=>(idx a i).bind λy=>F x y)=(idx (l.zip a) i).bind λp=>F p.1 p.2:=by
 unfold idx;by_cases h:0<=i;·simp only[if_pos h,List.zip,List.getElem?_zipWith];cases l[i.toNat]?<;>cases a[i.toNat]?<;>rfl
 simp only[if_neg h];rfl
def acZ{α β ρ:Type}(l:List α)(a:List β)(h:l.length=a.length)(L:Nat->Nat->Int->Option (LR Unit ρ))(s:Nat->α->β->Ax)(p:α->β->Bool)(r:ρ)
  (c:∀n k i,L n (k+1) i=cond (decide (i<(l.length:Int))) ((idx l i).bind λx=>(idx a i).bind λy=>(s n x y).bind λb=>cond b (some (.rt r)) (L n k (i+1))) (some (.nx ())))
  (d:∀x∈l,∀y,Ev (λn=>s n x y) (p x y)):Ev (λn=>L n n 0) (cond ((l.zip a).any λq=>p q.1 q.2) (.rt r) (.nx ())):=by
 refine sN (l.zip a) L (λn q=>s n q.1 q.2) (λq=>p q.1 q.2) r (λn k i=>?_) (λq e=>d q.1 (qCR e).1 q.2);rw[c,<-avm l a i λx y=>(s n x y).bind λb=>cond b (some (.rt r)) (L n k (i+1))];have:((l.zip a).length:Int)=(l.length:Int):=by rw[qDt,<-h,Nat.min_self]
 rw[this]
mutual
def dI:Ty→Ty→Bool
 | .mk k n ks,.mk k' n' ks'=>(k==k')&&((n==n')&&Ay ks ks')
def Ay:A3→A3→Bool
 |[],[]=>true
 |[],_::_=>false
 |_::_,[]=>false
 |a::ar,b::br=>dI a b&&Ay ar br
end
mutual
theorem nU:∀a b:Ty,dI a b=true→a=b
 | .mk k n ks,.mk k' n' ks',h=>by
  simp only[dI,qAa,beq_iff_eq]at h;obtain⟨h1,h2,h3⟩:=h;rw[h1,h2,atf ks ks' h3]
theorem atf:∀a b:A3,Ay a b=true→a=b
 |[],[],_=>rfl
 |[],_::_,h=>by cases h
 |_::_,[],h=>by cases h
 |a::ar,b::br,h=>by
  simp only[Ay,qAa]at h;rw[nU a b h.1,atf ar br h.2]
end
mutual
theorem Ux:∀a:Ty,dI a a=true
 | .mk k n ks=>by simp only[dI,beq_self_eq_true,ajH ks,qCz]
theorem ajH:∀a:A3,Ay a a=true
 |[]=>rfl
 |a::ar=>by simp only[Ay,Ux a,ajH ar,qCz]
end
def adF:∀l c:A3,l.length=c.length->(l.zip c).any (λq=>!(dI q.1 q.2))=!(Ay l c)|[],[],_=>rfl|[],_::_,h=>by cases h|_::_,[],h=>by cases h|a::r,b::d,h=>by have:=adF r d (by simpa using h);simp only[qDT,qCA,this,Ay];cases dI a b<;>rfl
def abk:∀l c:A3,l.length≠c.length->Ay l c=false|[],[],h=>absurd rfl h|[],_::_,_=>rfl|_::_,[],_=>rfl|a::r,b::d,h=>by have:=abk r d (by simpa using h);simp only[Ay,this,qBP]
def aLC{α β:Type}(l:List α)(a:List β):((l.length:Int)!=(a.length:Int))=!(l.length==a.length):=aqw l.length a.length
def rQ:∀t u:Ty,Ev (λn=>fA n t u) (dI t u):=Ty.ind λk nm a g u=>by
 let⟨d,m,s⟩:=u;refine Ev.succ ?_;show Ev (λn=>uO n _ (.mk k nm a) (.mk d m s)) _;unfold uO;simp only[Ty.kind,Ty.name,Ty.kids,dI,bne,aLC];cases k==d with
 |false=>exact Cu
 |true=>
  cases nm==m with
  |false=>exact Cu
  |true=>
   simp only[qAv,c_0,qAb,qAu];cases f:(a.length:Int)==(s.length:Int)with
   |false=>
    have:a.length≠s.length:=λe=>by simp[e]at f
    rw[abk a s this];exact Cu
   |true=>
    have l:a.length=s.length:=by have:=beq_iff_eq.1 f;omega
    simp only[qAv,c_0];have h:=acZ a s l (λn c i=>KO n (fA n) (.mk k nm a) (.mk d m s) c i) (λn x y=>(fA n x y).bind λb=>some (!b)) (λx y=>!(dI x y)) false
     (λn c i=>by
      show cond _ _ _=_;congr 1;show(idx a i).bind _=_;congr 1;funext x;show(idx s i).bind _=_;congr 1;funext y;simp only[qAW,qAb];rfl)
     (λx j y=>e_0 (g x j y) Cu)
    rw[adF a s l]at h;refine e_0 h ?_;cases Ay a s
    ·exact Cu
    exact Cu
def QK:∀t u:Ty,Ev (λn=>jQ n t u) (dI t u):=Ty.ind λk nm c j u=>by
 let⟨f,m,s⟩:=u;refine Ev.succ ?_;show Ev (λn=>FC n _ _ (.mk k nm c) (.mk f m s)) _;unfold FC;simp only[Ty.kind,Ty.name,Ty.kids,dI];cases k==f with
 |false=>exact Cu
 |true=>
  cases nm==m with
  |false=>exact Cu
  |true=>
   simp only[c_1,qAu];refine e_0 (a:=Ay c s) (e_0 (a:=Ay c s) (Ev.succ ?_) Cu) Cu;show Ev (λn=>sU n _ _ c s) _;unfold sU;simp only[bne];cases g:(c.length:Int)==(s.length:Int)with
   |false=>
    have:c.length≠s.length:=λe=>by simp[e]at g
    rw[abk c s this];exact Cu
   |true=>
    have l:c.length=s.length:=by have:=beq_iff_eq.1 g;omega
    simp only[qAv,c_0];have h:=acZ c s l (λn d i=>C9 n (rV n) (jQ n) c s d i) (λn x y=>(jQ n x y).bind λb=>some (!b)) (λx y=>!(dI x y)) false
     (λn d i=>by
      show cond _ _ _=_;congr 1;congr 1;funext x;congr 1;funext y;simp only[qAW,qAb];rfl)
     (λx o y=>e_0 (j x o y) Cu)
    rw[adF c s l]at h;refine e_0 h ?_;cases Ay c s
    ·exact Cu
    exact Cu
theorem Tm.ind{P:Tm->Prop}(h:∀k n m t s,(∀t∈s,P t)->P (.mk k n m t s))(t:Tm):P t:=by match t with| .mk k n m y s=>exact h k n m y s λu _=>Tm.ind h u
decreasing_by
 rename_i a;have:=qCH a
 grind
def iD(op:Int):Int:=
 cond ((op==1 ||(op==2 ||(op==19 ||(op==20 ||op==29))))) 0
  (cond ((op==3 ||(op==21 ||(decide (46<=op)&&decide (op<=52))))) 1 (cond (op==28) (-1) (cond (decide (4<=op)&&decide (op<=56)) 2 (-2))))
def bY(op:Int):Bool:=op==8 ||(op==9 ||(op==55 ||op==56))
def orS(a b:Bool):(cond a (some a) (some b))=some (a ||b):=by cases a<;>rfl
def aKF(a b:Bool):(cond a (some b) (some false))=some (a&&b):=by cases a<;>rfl
def axV(n:Nat)(op:Int):aed n op=some (iD op):=by
 unfold aed iD
 grind
def aLk(op:Int):((decide (46<=op)&&decide (op<=51)) ||op==52)=(decide (46<=op)&&decide (op<=52)):=by grind
def aqx(n:Nat)(op:Int):Te n op=some (cond (iD op== -2) (0,false) (iD op,true)):=by
 unfold Te iD;simp only[orS,aKF,qAb,aLk];cases a:(op==1 ||(op==2 ||(op==19 ||(op==20 ||op==29))))with|true=>rfl|false=>
  cases b:(op==3 ||(op==21 ||(decide (46<=op)&&decide (op<=52))))with|true=>rfl|false=>
   cases(op==28)with|true=>rfl|false=>
    simp only[qBL,beq_eq_false_iff_ne]at a b;have e:(decide (1<=op)&&decide (op<=56))=(decide (4<=op)&&decide (op<=56)):=by
     by_cases h:4<=op;·simp[h,show 1<=op by omega]
     simp[h,show ¬1<=op by omega]
    rw[e];cases(decide (4<=op)&&decide (op<=56))<;>rfl
def aAN(n:Nat)(op:Int):FZ n op=some (bY op):=by
 unfold FZ bY
 grind
def abj(n:Nat)(op:Int):zM n op=some (bY op):=by
 unfold zM bY
 grind
def Qr(t:Ty):Bool:=t.kind==0&&(t.name==[]&&(t.kids.length:Int)==0)
def aue(n:Nat)(t:Ty):Gc n t=some (Qr t):=by
 unfold Gc Qr
 grind
def ams(n:Nat)(t:Ty):Mk n t=some (Qr t):=by
 unfold Mk Qr
 grind
def MO(t:Tm):Bool:=cond (t.op==20) (named t.name) (cond (bY t.op) (ident t.name) (t.name==[]))
def Yq(t:Tm):Bool:=cond (t.op==19) (decide (0<=t.n)&&decide (t.n<=1000000000)) (t.n==0)
def tyB(t:Tm):Bool:=cond (t.op==29) (bA t.ty&&t.ty.kind !=2) (Qr t.ty)
def BU(t:Tm):Bool:=!(iD t.op== -2)&&cond (iD t.op== -1) (!((t.kids.length:Int)==0)) ((t.kids.length:Int)==iD t.op)
def qV(t:Tm):Bool:=BU t&&(MO t&&(Yq t&&tyB t))
def azA(t:Tm)(hs:t.name.length<=9223372036854775807):Ev (λn=>MP n t) (qV t):=by
 unfold MP qV;simp only[aqx,qAb];have h:Ev (λn=>((((cond (!(cond (iD t.op== -2) ((0:Int),false) (iD t.op,true)).2) (some (!(cond (iD t.op== -2) ((0:Int),false) (iD t.op,true)).2)) (((cond ((cond (iD t.op== -2) ((0:Int),false) (iD t.op,true)).1==(-1)) (some ((t.kids.length:Int)==0)) (some false)):Ax).bind λ(s:Bool)=>cond s (some s) (cond ((cond (iD t.op== -2) ((0:Int),false) (iD t.op,true)).1 !=(-1)) (some ((t.kids.length:Int)!=(cond (iD t.op== -2) ((0:Int),false) (iD t.op,true)).1)) (some false)))):Ax)).bind λ(b:Bool)=>(cond b (some (.rt false)) (cond (t.op==20) ((YA n t.name).bind λ(x:Bool)=>some (.nx x)) ((FZ n t.op).bind λ(c:Bool)=>cond c ((gX n t.name).bind λ(d:Bool)=>some (.nx d)) (some (.nx (t.name==([]:Str))))))):Option (LR Bool Bool))) (cond (BU t) (.nx (MO t)) (.rt false)):=by
  refine e_0 (a:=!(BU t)) ?_ ?_
  ·refine Ev.of λn=>?_;unfold BU
   grind
  cases BU t with
  |false=>exact Cu
  |true=>
   simp only[qAv,c_0,c_1,MO,aAN,qAb];cases t.op==20 with
   |true=>
    refine e_0 (a:=named t.name) ?_ Cu;exact afh t.name hs
   |false=>
    cases bY t.op with
    |true=>exact e_0 (rM _) Cu
    |false=>exact Cu
 refine e_0 h ?_;cases BU t with
 |false=>exact Cu
 |true=>
  simp only[c_1,qAu];refine e_0 (a:=MO t&&Yq t) ?_ ?_
  ·unfold Yq;refine Ev.of λn=>?_
   grind
  unfold tyB;cases t.op==29 with
  |true=>
   simp only[c_1];refine e_0 (a:=MO t&&(Yq t&&(bA t.ty&&t.ty.kind !=2))) ?_ Cu;cases MO t with
   |false=>exact Cu
   |true=>
    cases Yq t with
    |false=>exact Cu
    |true=>
     simp only[qAu,c_1];cases k:t.ty.kind !=2 with
     |false=>simp only[c_0,qBP];exact Cu
     |true=>simp only[c_1,qBH];exact e_0 (tK _) Cu
  |false=>
   simp only[c_0,aue,qAb];refine Ev.of λn=>?_;cases MO t<;>cases Yq t<;>rfl
def awQ(t:Tm):Ev (λn=>adQ n t) (qV t):=by
 unfold adQ qV;simp only[axV,qAb];refine e_0 (a:=!(BU t)) ?_ ?_
 ·refine Ev.of λn=>?_;unfold BU;cases d:iD t.op== -2 with
  |true=>rfl
  |false=>
   simp only[c_0,qAv,qBb,qAu];cases e:iD t.op== -1 with
   |true=>
    grind
   |false=>
    have g:decide (0<=iD t.op)=true:=by
     unfold iD at e d|-
     grind
    grind
 cases BU t with
 |false=>exact Cu
 |true=>
  simp only[qAv,c_0,qAu];refine e_0 (a:=cond (MO t) (.nx ()) (.rt false)) ?_ ?_
  ·unfold MO;simp only[abj,qAb];cases t.op==20 with
   |true=>
    refine e_0 (afa _) ?_;simp only[c_1];cases named t.name
    ·exact Cu
    exact Cu
   |false=>
    simp only[c_0];cases bY t.op with
    |true=>
     refine e_0 (qw _) ?_;simp only[c_1];cases ident t.name
     ·exact Cu
     exact Cu
    |false=>
     simp only[c_0];cases t.name==([]:Str)
     ·exact Cu
     exact Cu
  cases MO t with
  |false=>exact Cu
  |true=>
   simp only[c_1,qAu];refine e_0 (a:=!(Yq t)) ?_ ?_
   ·refine Ev.of λn=>?_;unfold Yq;cases h:t.op==19 with
    |true=>
     simp only[c_1,bne,h,qAv,c_0];by_cases b:t.n<0
     ·rw[d_1 b,d_0 (show ¬0<=t.n by omega)];rfl
     rw[d_0 b,d_1 (show 0<=t.n by omega)];by_cases c:1000000000<t.n
     ·rw[d_1 c,d_0 (show ¬t.n<=1000000000 by omega)];rfl
     rw[d_0 c,d_1 (show t.n<=1000000000 by omega)];rfl
    |false=>simp only[c_0,bne,h,qBb,c_1]
   cases Yq t with
   |false=>exact Cu
   |true=>
    simp only[qAv,c_0,qAu];unfold tyB;cases t.op==29 with
    |true=>
     simp only[c_1];refine e_0 (a:=bA t.ty&&t.ty.kind !=2) (e_0 (Cw _) ?_) Cu;cases bA t.ty
     ·exact Cu
     exact Cu
    |false=>
     simp only[c_0,ams,qAb];exact Cu
mutual
def mf:Tm→Int→Int→Bool×Int
 | .mk op nm m ty ks,d,c=>cond ((decide (c+1≤2000)&&decide (d≤64))&&qV (.mk op nm m ty ks)) (Cc ks (d+1) (c+1)) (false,c+1)
def Cc:Bi→Int→Int→Bool×Int
 |[],_,c=>(true,c)
 |t::ts,d,c=>cond (mf t d c).1 (Cc ts d (mf t d c).2) (false,(mf t d c).2)
end
mutual
theorem adT:∀(t:Tm) (d c:Int),(mf t d c).1=true→c<(mf t d c).2∧(mf t d c).2≤2000
 | .mk op nm m ty ks,d,c,h=>by
  simp only[mf]at h⊢;cases hb:((decide (c+1≤2000)&&decide (d≤64))&&qV (.mk op nm m ty ks))with
  |false=>rw[hb]at h;cases h
  |true=>
   rw[hb]at h;simp only[cond_true]at h⊢;simp only[qAa,decide_eq_true_eq]at hb;have:=asb ks (d+1) (c+1) h;omega
theorem asb:∀(ts:Bi) (d c:Int),(Cc ts d c).1=true→c≤(Cc ts d c).2∧(c≤2000→(Cc ts d c).2≤2000)
 |[],_,c,_=>by simp[Cc]
 |t::ts,d,c,h=>by
  simp only[Cc]at h⊢;cases hb:(mf t d c).1 with
  |false=>rw[hb]at h;cases h
  |true=>
   rw[hb]at h;simp only[cond_true]at h⊢;have h1:=adT t d c hb;have h2:=asb ts d _ h;exact⟨by omega,fun _=>h2.2 h1.2⟩
end
mutual
def iN:Tm→Prop
 | .mk _ nm _ _ ks=>nm.length≤9223372036854775807∧Oh ks
def Oh:Bi→Prop
 |[]=>True
 |t::ts=>iN t∧Oh ts
end
def asG:∀{s:Bi},Oh s->∀t∈s,iN t
 |[],_,t,h=>by cases h
 |u::s,h,t,ht=>by
  simp only[Oh]at h;rcases qAh.1 ht with rfl|ht
  ·exact h.1
  exact asG h.2 t ht
def az0(n:Nat)(c d:Int)(h0:0<=c)(h:c<=2000):lS n c 2000 64 d=some (decide (c+1<=2000)&&decide (d<=64),c+1):=by
 unfold lS;rw[wrap64 Cl Cl]
 grind
def aGv(t:Tm):Prop:=iN t->∀d c:Int,1<=d->d<=65->0<=c->c<=2000->Ev (λn=>kM n c 2000 64 t d) (mf t d c)
def auD(d:Int):∀(a:Bi) (i c:Int),0<=i->(∃j,0<=j/\(Cc a d c).1=false/\lu (τ:=Int) (λi x s=>cond (!(mf x d s).1) (.rt (i,(mf x d s).2)) (.nx (mf x d s).2)) (λs=>s) i a c=.rt (j,(Cc a d c).2))∨((Cc a d c).1=true/\lu (ρ:=Int×Int) (λi x s=>cond (!(mf x d s).1) (.rt (i,(mf x d s).2)) (.nx (mf x d s).2)) (λs=>s) i a c=.nx (Cc a d c).2)
 |[],i,c,_=>.inr ⟨rfl,rfl⟩
 |t::a,i,c,h=>by
  simp only[Cc,lu];cases b:(mf t d c).1 with
  |false=>exact .inl ⟨i,h,rfl,rfl⟩
  |true=>exact auD d a (i+1) _ Cl
def axk(f:Bi)(h:∀t∈f,aGv t)(v:Oh f)(d c:Int)(D:1<=d)(w:d<=64)(h0:0<=c)(y:c<=2000):Ev (λn=>iR n f c 2000 64 d) (!(Cc f (d+1) c).1,(Cc f (d+1) c).2):=by
 refine Ev.succ ?_;show Ev (λn=>xZ n _ _ _ _ f c 2000 64 d) _;have l:=Qk f (λn k i s=>Du n (lD n) (iR n) (kM n) (iU n) f 2000 64 d k (i,s))
  (λn i x s=>(iU n x s 2000 64 d).bind λo=>cond o.1 (some (.rt (i,o.2))) (some (.nx o.2))) (λi x s=>cond (!(mf x (d+1) s).1) (.rt (i,(mf x (d+1) s).2)) (.nx (mf x (d+1) s).2)) (λs=>s) (λ_ _ s=>0<=s/\s<=2000)
  (λn k i s=>by show cond _ _ _=_;congr 1;congr 1;funext x;dsimp only;cases iU n x s 2000 64 d with|none=>rfl|some b=>let⟨b,e⟩:=b;cases b<;>rfl)
  (λi x z s q u=>⟨by
   have g:Ev (λn=>iU n x s 2000 64 d) (!(mf x (d+1) s).1,(mf x (d+1) s).2):=by refine Ev.succ ?_;show Ev (λn=>uY n _ _ _ _ x s 2000 64 d) _;unfold uY;have:=h x q (asG v x q) (d+1) s Cl Cl u.1 u.2;rw[wrap64 Cl Cl];exact e_0 this Cu
   refine e_0 g ?_;cases(mf x (d+1) s).1;·exact Cu
   exact Cu,λE m=>by cases p:(mf x (d+1) s).1 with|false=>rw[p]at m;cases m|true=>rw[p]at m;simp at m;have:=adT x (d+1) s p;omega⟩) (s0:=c) ⟨h0,y⟩
 rcases auD (d+1) f 0 c (qBD _)with⟨j,A,B,r⟩|⟨C,r⟩
 ·rw[r]at l;refine e_0 (a:=(j,(Cc f (d+1) c).2)) (Ev.succ ?_) ?_
  ·show Ev (λn=>kg n _ _ _ _ f c 2000 64 d) _;unfold kg;exact e_0 l Cu
  rw[B];simp only[d_1 A];exact Cu
 rw[r]at l;refine e_0 (a:=(-1,(Cc f (d+1) c).2)) (Ev.succ ?_) ?_;·show Ev (λn=>kg n _ _ _ _ f c 2000 64 d) _;unfold kg;exact e_0 l Cu
 rw[C];exact Cu
def aJw:∀t:Tm,aGv t:=Tm.ind λo nm m y k i s d c b e f g=>by
 refine Ev.succ ?_;show Ev (λn=>xI n _ _ _ _ c 2000 64 (.mk o nm m y k) d) _;unfold xI;simp only[az0 _ c d f g,qAb,mf];cases h:(decide (c+1<=2000)&&decide (d<=64))with|false=>exact Cu|true=>simp at h;refine e_0 (a:=(!(qV (.mk o nm m y k)),c+1)) (e_0 (azA (.mk o nm m y k) s.1) Cu) ?_;cases qV (.mk o nm m y k)with|false=>exact Cu|true=>refine e_0 (axk k i s.2 d (c+1) b h.2 Cl h.1) ?_;simp only[qCk];exact Cu
def cO(t:Tm):Bool:=(mf t 1 0).1
def OB(t:Tm)(h:iN t):Ev (λn=>J7 n t) (cO t):=by exact e_0 (aJw t h 1 0 Cl Cl Cl Cl) Cu
def mt(t:Tm)(d c:Int):Int:=cond (mf t d c).1 (mf t d c).2 (-1)
def aGD(t:Tm):Prop:=∀d c:Int,1<=d->d<=65->0<=c->c<=2000->Ev (λn=>GL n t d c) (mt t d c)
def avY(d:Int):∀(a:Bi) (c:Int),0<=c->fG (τ:=Int) (λx s=>cond (decide (mt x d s<0)) (.rt (-1)) (.nx (mt x d s))) (λs=>s) a c=cond (Cc a d c).1 (.nx (Cc a d c).2) (.rt (-1))
 |[],c,_=>rfl
 |t::a,c,g=>by
  simp only[Cc,fG];by_cases b:(mf t d c).1=true
  ·have i:=adT t d c b;have f:mt t d c=(mf t d c).2:=by simp only[mt,b,c_1]
   have e:decide ((mf t d c).2<0)=false:=d_0 Cl;simp only[f,e,b,c_1,c_0];exact avY d a (mf t d c).2 Cl
  have h:(mf t d c).1=false:=by simpa using b
  have f:mt t d c= -1:=by simp only[mt,h,c_0]
  have e:decide (mt t d c<0)=true:=d_1 Cl;simp only[e,h,c_1,c_0]
def nodes:∀t:Tm,aGD t:=Tm.ind λo nm m y k v d c B w C D=>by
 refine Ev.succ ?_;show Ev (λn=>Ox n _ (.mk o nm m y k) d c) _;unfold Ox;simp only[mt,mf];rw[wrap64 Cl Cl];by_cases f:d<=64
 case neg=>rw[d_1 (show 64<d by omega),d_0 f];simp only[qBP,qBk,c_0];exact Cu
 by_cases l:c+1<=2000
 case neg=>rw[d_0 (show ¬64<d by omega),d_1 (show 2000<c+1 by omega),d_0 l];simp only[qBk,c_0,c_1];exact Cu
 rw[d_0 (show ¬64<d by omega),d_0 (show ¬2000<c+1 by omega),d_1 f,d_1 l];simp only[c_0,qAu];refine e_0 (a:=!(qV (.mk o nm m y k))) (e_0 (awQ _) Cu) ?_;cases qV (.mk o nm m y k)with|false=>exact Cu|true=>
  simp only[qAv,c_0,c_1];have h:=V3 k (λn q i s=>ae5 n (GL n) (.mk o nm m y k) d q (s,i)) (λn x s=>(GL n x (IntKind.wrap .i64 (d+1)) s).bind λr=>cond (decide (r<0)) (some (.rt (-1))) (some (.nx r)))
   (λx s=>cond (decide (mt x (d+1) s<0)) (.rt (-1)) (.nx (mt x (d+1) s))) (λs=>s) (λ_ s=>0<=s/\s<=2000)
   (λn q i s=>by show cond _ _ _=_;congr 1;show(idx k i).bind _=_;congr 1;funext x;dsimp only;cases GL n x (IntKind.wrap .i64 (d+1)) s with|none=>rfl|some b=>simp only[qAb];cases decide (b<0)<;>rfl)
   (λx z s A u=>⟨by
    rw[wrap64 Cl Cl];refine e_0 (v x A (d+1) s Cl Cl u.1 u.2) ?_;cases decide (mt x (d+1) s<0);·exact Cu
    exact Cu,λE g=>by
    cases p:decide (mt x (d+1) s<0)with|true=>rw[p]at g;cases g|false=>rw[p]at g;simp only[c_0,LR.nx.injEq]at g;have e:¬mt x (d+1) s<0:=of_decide_eq_false p;subst g;unfold mt at e|-;cases j:(mf x (d+1) s).1 with|false=>rw[j]at e;simp at e|true=>have:=adT x (d+1) s j;simp only[c_1];omega⟩) (s0:=c+1) ⟨by omega,l⟩
  rw[avY _ _ _ Cl]at h;refine e_0 h ?_;cases(Cc k (d+1) (c+1)).1;·exact Cu
  exact Cu
def xS(t:Tm):Ev (λn=>vC n t) (cO t):=by refine e_0 (nodes t 1 0 Cl Cl Cl Cl) ?_;unfold mt cO;cases h:(mf t 1 0).1 with|false=>exact Cu|true=>have:=adT t 1 0 h;simp only[c_1];rw[d_1 Cl];exact Cu
def aY:Ty:=.mk 2 [] []
def fE:Ty:=.mk 1 [] []
def aR(a b:Ty):Ty:=.mk 4 [] [a,b]
inductive Good:Ty→Prop where
 |int:Good fE
 |car (nm:Str):Good (nD nm)
 |pair {a b:Ty}:Good a→Good b→Good (aR a b)
 |set {a:Ty}:Good a→Good (au a)
def Top(t:Ty):Prop:=t=aY∨Good t
mutual
theorem aEV:∀(t:Ty) (d c:Int),1<d→(pf t d c).1=true→Good t
 | .mk k nm ks,d,c,hd,h=>by
  simp only[pf]at h;cases hb:((decide (c+1≤16)&&decide (d≤6))&&fT k nm ks.length d)with
  |false=>rw[hb]at h;cases h
  |true=>
   rw[hb]at h;simp only[cond_true]at h;have hk:=agN ks (d+1) (c+1) Cl h;simp only[qAa,fT,decide_eq_true_eq,qBe,beq_iff_eq,qAV,qDB,beq_eq_false_iff_ne,decide_eq_false_iff_not]at hb;obtain⟨_,h2,h3,h4⟩:=hb;have hk2:k≠2:=by rcases h2 with h2|h2<;>omega
   rcases h3 with⟨h5,h6⟩|⟨h5,h6⟩|⟨h5,h6⟩
   ·have hks:ks=[]:=qAD.1 h6;subst hks;rcases h5 with rfl|rfl|rfl
    ·have:nm=[]:=by simpa using h4
     subst this;exact .int
    ·exact absurd rfl hk2
    ·exact .car nm
   ·subst h5;have:nm=[]:=by simpa using h4
    subst this
    match ks,h6,hk with
    |[a,b],_,hk=>exact .pair (hk a cn) (hk b cn)
   ·subst h5;have:nm=[]:=by simpa using h4
    subst this
    match ks,h6,hk with
    |[a],_,hk=>exact .set (hk a cn)
theorem agN:∀(ts:A3) (d c:Int),1<d→(kK ts d c).1=true→∀t∈ts,Good t
 |[],_,_,_,_,t,ht=>by cases ht
 |u::ts,d,c,hd,h,t,ht=>by
  simp only[kK]at h;cases hb:(pf u d c).1 with
  |false=>rw[hb]at h;cases h
  |true=>
   rw[hb]at h;rcases qAh.1 ht with he|ht
   ·rw[he];exact aEV u d c hd hb
   ·exact agN ts d _ hd h t ht
end
def UH{t:Ty}(h:bA t=true):Top t:=by
 let⟨k,nm,s⟩:=t;unfold bA at h;simp only[pf]at h;cases f:((decide ((0:Int)+1<=16)&&decide ((1:Int)<=6))&&fT k nm s.length 1)with|false=>rw[f]at h;cases h|true=>
  rw[f]at h;simp only[c_1]at h;have c:=agN s (1+1) (0+1) Cl h;simp only[qAa,fT,decide_eq_true_eq,qBe,beq_iff_eq,qAV,qDB,beq_eq_false_iff_ne,decide_eq_false_iff_not]at f;let⟨_,_,j,g⟩:=f;rcases j with⟨d,e⟩|⟨d,e⟩|⟨d,e⟩
  ·have i:s=[]:=qAD.1 e;subst i;rcases d with rfl|rfl|rfl
   ·have:nm=[]:=by simpa using g
    subst this;exact .inr .int
   ·have:nm=[]:=by simpa using g
    subst this;exact .inl rfl
   exact .inr (.car nm)
  ·subst d;have:nm=[]:=by simpa using g
   subst this
   match s,e,c with|[a,b],_,c=>exact .inr (.pair (c a cn) (c b cn))
  subst d;have:nm=[]:=by simpa using g
  subst this
  match s,e,c with|[a],_,c=>exact .inr (.set (c a cn))
def aE0{t:Ty}(h:Good t):H9 t=true:=by induction h with|int=>rfl|car nm=>rfl|pair _ _ a b=>simp[aR,H9,Vd,a,b]|set _ a=>simp[au,H9,Vd,a]
def aAH{t:Ty}(h:Top t):H9 t=true:=by
 rcases h with rfl|h
 ·rfl
 exact aE0 h
def Na{t:Ty}(h:Good t):(t.kind==2)=false:=by cases h<;>rfl
def eB(t:Ty):B7:=cond (t.kind==5) t.kids.head? none
def pW(t:Ty):Option (Ty×Ty):=(eB t).bind λp=>cond (p.kind==4) (p.kids.head?.bind λa=>(p.kids.drop 1).head?.map λb=>(a,b)) none
theorem ag9(a:Ty):eB (au a)=some a:=rfl
theorem aB4(a b:Ty):pW (au (aR a b))=some (a,b):=rfl
def DI{t:Ty}(h:Top t):(∃e,t=au e/\Good e)∨((t.kind==5)=false/\eB t=none/\pW t=none):=by
 rcases h with rfl|h
 ·exact .inr ⟨rfl,rfl,rfl⟩
 cases h with|int=>exact .inr ⟨rfl,rfl,rfl⟩|car nm=>exact .inr ⟨rfl,rfl,rfl⟩|pair _ _=>exact .inr ⟨rfl,rfl,rfl⟩|set h=>exact .inl ⟨_,rfl,h⟩
def aob{t:Ty}(h:Top t):(∃a b,t=au (aR a b)/\Good a/\Good b)∨pW t=none:=by
 rcases DI h with⟨e,rfl,c⟩|⟨_,_,h⟩
 ·cases c with|int=>exact .inr rfl|car nm=>exact .inr rfl|pair d f=>exact .inl ⟨_,_,rfl,d,f⟩|set h=>exact .inr rfl
 exact .inr h
def jV{t e:Ty}(h:Top t)(a:eB t=some e):Good e/\t=au e:=by
 rcases DI h with⟨b,rfl,g⟩|⟨_,h,_⟩
 ·rw[ag9]at a;cases a;exact⟨g,rfl⟩
 rw[h]at a;cases a
def wM{t a b:Ty}(h:Top t)(e:pW t=some (a,b)):Good a/\Good b/\t=au (aR a b):=by
 rcases aob h with⟨c,d,rfl,g⟩|h
 ·rw[aB4]at e;cases e;exact⟨g.1,g.2,rfl⟩
 rw[h]at e;cases e
def elP(o:B7):Ty×Bool:=match o with|some e=>(e,true)|none=>(bH,false)
def acf(n:Nat){t:Ty}(h:Top t):dx n t=some (elP (eB t)):=by
 rcases DI h with⟨e,rfl,_⟩|⟨a,b,_⟩
 ·rfl
 unfold dx;rw[b,bne,a];rfl
def aAZ(n:Nat){t:Ty}(h:Top t):nM n t=some (eB t).isSome:=by
 rcases DI h with⟨e,rfl,a⟩|⟨b,c,_⟩
 ·cases a<;>rfl
 unfold nM;rw[c,b];rfl
def bW(b:Bool)(t:Ty):B7:=cond b (some t) none
def vU(q:Int)(l:A3):Bool:=l.all λx=>x.kind==q
def jT(op:Int)(l:A3):B7:=
 let a:=l.headD bH
 let b:=(l.drop 1).headD bH
 cond (decide (op<=2)) (some aY) <|
 cond (decide (op<=7)) (bW (vU 2 l) aY) <|
 cond (decide (op<=9)) (bW ((eB a).isSome&&b.kind==2) aY) <|
 cond (decide (op<=11)) (bW (a.kind !=2&&dI a b) aY) <|
 cond (decide (op<=15)) (bW (vU 1 l) aY) <|
 cond (decide (op<=17)) ((eB b).bind λe=>bW (dI a e) aY) <|
 cond (decide (op<=18)) (bW ((eB a).isSome&&dI a b) aY) <|
 cond (decide (op<=19)) (some fE) <|
 cond (decide (op<=26)) (bW (vU 1 l) fE) <|
 cond (decide (op<=27)) (bW (a.kind !=2&&b.kind !=2) (aR a b)) <|
 cond (decide (op<=28)) (bW (a.kind !=2&&l.all λx=>dI x a) (au a)) <|
 cond (decide (op<=30)) (bW (vU 1 l) (au fE)) <|
 cond (decide (op<=33)) (bW ((eB a).isSome&&dI a b) a) <|
 cond (decide (op<=34)) ((eB a).bind λx=>(eB b).map λy=>au (aR x y)) <|
 cond (decide (op<=35)) (bW ((pW a).isSome&&dI a b) a) <|
 cond (decide (op<=36)) ((pW a).bind λx=>(pW b).bind λy=>bW (dI x.2 y.1) (au (aR x.1 y.2))) <|
 cond (decide (op<=38)) ((eB a).bind λx=>(pW b).bind λy=>bW (dI x y.1) b) <|
 cond (decide (op<=40)) ((pW a).bind λx=>(eB b).bind λy=>bW (dI y x.2) a) <|
 cond (decide (op<=45)) ((eB a).bind λx=>(eB b).map λy=>au (au (aR x y))) <|
 cond (decide (op<=46)) ((eB a).map λx=>au (au x)) <|
 cond (decide (op<=47)) ((eB a).map λ_=>fE) <|
 cond (decide (op<=49)) ((eB a).bind λx=>bW (x.kind==1) fE) <|
 cond (decide (op<=50)) ((pW a).map λx=>au x.1) <|
 cond (decide (op<=51)) ((pW a).map λx=>au x.2) <|
 cond (decide (op<=52)) ((pW a).map λx=>au (aR x.2 x.1)) <|
 cond (decide (op<=53)) ((pW a).bind λx=>(eB b).bind λy=>bW (dI y x.1) (au x.2)) <|
 cond (decide (op<=54)) ((pW a).bind λx=>bW (dI b x.1) x.2) <|
 cond (decide (op<=55)) (bW ((eB a).isSome&&b.kind==2) a) <|
 (eB a).bind λx=>bW (b.kind !=2) (au (aR x b))
def apt(r:Ty×Bool)(o:B7):Prop:=match o with|some t=>r=(t,true)|none=>r.2=false
def Row(f:Nat->Option (Ty×Bool))(o:B7):Prop:=∃r,Ev f r/\apt r o
def Row.of{f:Nat->Option (Ty×Bool)}{o:B7}(t:Ty)(b:Bool)(h:Ev f (t,b))(e:o=bW b t):Row f o:=by
 subst e;cases b;·exact⟨_,h,rfl⟩
 exact⟨_,h,rfl⟩
def Row.yes{f:Nat->Option (Ty×Bool)}{o:B7}(t:Ty)(h:Ev f (t,true))(e:o=some t):Row f o:=.of t true h e
theorem abX{α:Type}(a:α)(l:List α):idx (a::l) 0=some a:=rfl
theorem arZ{α:Type}(a b:α)(l:List α):idx (a::b::l) 1=some b:=rfl
def aHy(t:Ty):Ty.mk t.kind t.name t.kids=t:=by cases t;rfl
def arR(a b:Ty):dI a b=true↔a=b:=⟨nU a b,λh=>h▸Ux a⟩
def azQ(a b:Ty):dI a b=dI b a:=by
 rw[qCe,arR,arR]
 grind
def ari(a b:Ty):dI (au a) (au b)=dI a b:=by simp[au,dI,Ay]
def aDr{t:Ty}(h:Top t):(t.kind==2)=dI t aY:=by
 rcases h with rfl|h
 ·rfl
 cases h<;>rfl
def aD4{t:Ty}(h:Top t):(t.kind==1)=dI t fE:=by
 rcases h with rfl|h
 ·rfl
 cases h<;>rfl
def aIK{l:A3}(h:∀t∈l,Top t):vU 2 l=l.all λx=>dI x aY:=by unfold vU;rw[qCe,qAP,qAP];exact⟨λk t a=>by rw[<-aDr (h t a)];exact k t a,λk t a=>by rw[aDr (h t a)];exact k t a⟩
def aI7{l:A3}(h:∀t∈l,Top t):vU 1 l=l.all λx=>dI x fE:=by unfold vU;rw[qCe,qAP,qAP];exact⟨λk t a=>by rw[<-aD4 (h t a)];exact k t a,λk t a=>by rw[aD4 (h t a)];exact k t a⟩
def aBl(l:A3)(k:Int)(nm:Str)(s:A3)(q:Int):Row (λn=>aZ n l k nm s q) (bW (vU q l) (.mk k nm s)):=by
 refine Row.of (.mk k nm s) (vU q l) ?_ rfl;refine e_0 (a:=l.any λx=>x.kind !=q) (e_0 (vo l (λn k i=>Bw n l q k i) (λ_ x=>some (x.kind !=q)) (λx=>x.kind !=q) (λn k i=>rfl) (λx _=>Ev.ret _)) ?_) ?_;·rw[mO _ _ _ (qBD _)];exact Cu
 have:(!(l.any λx=>x.kind !=q))=vU q l:=by
  unfold vU
  grind
 rw[this];exact Cu
def atc(a:Ty)(l:A3):Ev (λn=>oW n (a::l)) (a.kind !=2&&(a::l).all λx=>dI x a):=by
 unfold oW sQ vR;simp only[abX,qAb];cases a.kind !=2 with|false=>exact Cu|true=>
  simp;refine e_0 (a:=(a::l).any λx=>!(dI x a)) (e_0 (vo (a::l) (λn k i=>Bj n (a::l) (a::l) k i) (λn x=>DU n x (a::l)) (λx=>!(dI x a)) (λn k i=>rfl) (λx _=>?_)) ?_) ?_;·unfold DU;simp only[abX,qAb];exact e_0 (QK x a) Cu
  ·rw[mO _ _ _ (qBD _)];exact Cu
  rw[qm,qCk];exact Cu
def azD(a b:Ty):Ev (λn=>oW n [a,b]) (a.kind !=2&&dI a b):=by have:=atc a [b];simp only[qBC,List.all_nil,qBH,Ux]at this;rwa[azQ b a]at this
def aFc{a:Ty}(l:A3):Row (λn=>AX n (a::l)) (bW (a.kind !=2&&(a::l).all λx=>dI x a) (au a)):=by unfold AX;simp only[abX,qAb];exact .of (au a) _ (e_0 (atc a l) Cu) rfl
def shapes{t:Ty}(h:Top t):t=aY∨t=fE∨(∃s,t=nD s)∨(∃x y,t=aR x y)∨t=au fE∨(∃s,t=au (nD s))∨(∃x y,t=au (aR x y))∨∃x,t=au (au x):=by
 rcases h with rfl|h
 ·exact .inl rfl
 cases h with|int=>exact .inr (.inl rfl)|car s=>exact .inr (.inr (.inl ⟨s,rfl⟩))|pair _ _=>exact .inr (.inr (.inr (.inl ⟨_,_,rfl⟩)))|set h=>cases h with|int=>exact .inr (.inr (.inr (.inr (.inl rfl))))|car s=>exact .inr (.inr (.inr (.inr (.inr (.inl ⟨s,rfl⟩)))))|pair _ _=>exact .inr (.inr (.inr (.inr (.inr (.inr (.inl ⟨_,_,rfl⟩))))))|set _=>exact .inr (.inr (.inr (.inr (.inr (.inr (.inr ⟨_,rfl⟩))))))
def CO(t:Ty)(b:Bool):apt (t,b) (bW b t):=by cases b<;>rfl
def aJK(t:Ty)(b:Bool):apt (cond b t bH,b) (bW b t):=by cases b<;>rfl
def aDV{a:Ty}(b:Top a)(x t:Ty):(eB a).bind (λz=>bW (dI z x) t)=bW (dI a (au x)) t:=by
 cases h:eB a with
 |none=>
  cases c:dI a (au x)with
  |false=>rfl
  |true=>have:=nU _ _ c;subst this;rw[ag9]at h;cases h
 |some e=>
  obtain⟨_,rfl⟩:=jV b h;rw[ari];rfl
def aGJ{a b:Ty}(c:Top b)(t:Ty):(eB b).bind (λe=>bW (dI a e) t)=bW (a.kind !=2&&dI (au a) b) t:=by
 cases s:eB b with
 |none=>
  cases h:dI (au a) b with
  |false=>rw[qBP];rfl
  |true=>have:=nU _ _ h;subst this;rw[ag9]at s;cases s
 |some e=>
  obtain⟨g,rfl⟩:=jV c s;rw[ari];cases h:dI a e with
  |false=>rw[qBP];simp only[qAb,h]
  |true=>
   have:=nU _ _ h;subst this;simp only[qAb,h,bne,Na g,qBb,qBH]
def aBg(f:Nat->Option (Bool×Int×Str×A3))(o:B7):Prop:=∃r,Ev f r/\(match o with|some t=>r=(true,t.kind,t.name,t.kids)|none=>r.1=false)
def Row.c{f:Nat->Option (Ty×Bool)}{o:B7}(h:Row f o):aBg (λn=>(f n).bind λx=>some (x.2,x.1.kind,x.1.name,x.1.kids)) o:=by let⟨r,b,a⟩:=h;refine⟨_,e_0 b Cu,?_⟩;cases o with|none=>exact a|some t=>have a:r=(t,true):=a;subst a;rfl
def rc(x:Ty×Bool):Option (Bool×Int×Str×A3):=some (x.2,x.1.kind,x.1.name,x.1.kids)
def chn{α:Type}(op:Int):Int->List (Option α)->Option α|_,[]=>none|i,x::r=>cond (op==i) x (chn op (i+1) r)
def aqC(n:Nat)(op:Int)(l:A3):Option (Bool×Int×Str×A3):=
 chn op 0 [none,rc (aY,true),rc (aY,true),(aZ n l 2 [] [] 2).bind rc,(aZ n l 2 [] [] 2).bind rc,(aZ n l 2 [] [] 2).bind rc,(aZ n l 2 [] [] 2).bind rc,(aZ n l 2 [] [] 2).bind rc,(wZ n l).bind rc,(wZ n l).bind rc,(Bf n l).bind rc,(Bf n l).bind rc,(aZ n l 2 [] [] 1).bind rc,(aZ n l 2 [] [] 1).bind rc,(aZ n l 2 [] [] 1).bind rc,(aZ n l 2 [] [] 1).bind rc,(Bu n l).bind rc,(Bu n l).bind rc,(Ka n l).bind rc,rc (fE,true),none,(aZ n l 1 [] [] 1).bind rc,(aZ n l 1 [] [] 1).bind rc,(aZ n l 1 [] [] 1).bind rc,(aZ n l 1 [] [] 1).bind rc,(aZ n l 1 [] [] 1).bind rc,(aZ n l 1 [] [] 1).bind rc,(Oj n l).bind rc,(AX n l).bind rc,none,(aZ n l 5 [] [fE] 1).bind rc,(o7 n l).bind rc,(o7 n l).bind rc,(o7 n l).bind rc,(Lc n l).bind rc,(yU n l).bind rc,(y9 n l).bind rc,(Bz n l).bind rc,(Bz n l).bind rc,(nR n l).bind rc,(nR n l).bind rc,(jL n l).bind rc,(jL n l).bind rc,(jL n l).bind rc,(jL n l).bind rc,(jL n l).bind rc,(GN n l).bind rc,(G5 n l).bind rc,(vB n l).bind rc,(vB n l).bind rc,(zl n l).bind rc,(yI n l).bind rc,(yS n l).bind rc,(y5 n l).bind rc,(yD n l).bind rc,(JJ n l).bind rc,(L9 n l).bind rc]
def awe{op:Int}(h:1<=op)(h2:op<=56):op=1∨op=2∨op=3∨op=4∨op=5∨op=6∨op=7∨op=8∨op=9∨op=10∨op=11∨op=12∨op=13∨op=14∨op=15∨op=16∨op=17∨op=18∨op=19∨op=20∨op=21∨op=22∨op=23∨op=24∨op=25∨op=26∨op=27∨op=28∨op=29∨op=30∨op=31∨op=32∨op=33∨op=34∨op=35∨op=36∨op=37∨op=38∨op=39∨op=40∨op=41∨op=42∨op=43∨op=44∨op=45∨op=46∨op=47∨op=48∨op=49∨op=50∨op=51∨op=52∨op=53∨op=54∨op=55∨op=56:=by omega
def aj7{α:Type}(l:List α)(h:(l.length:Int)=1):∃a,l=[a]:=by match l,h with|[a],_=>exact⟨a,rfl⟩
def Dz{α:Type}(l:List α)(h:(l.length:Int)=2):∃a b,l=[a,b]:=by match l,h with|[a,b],_=>exact⟨a,b,rfl⟩
def LH{α:Type}(l:List α)(h:l≠[]):∃a m,l=a::m:=by match l,h with|a::m,_=>exact⟨a,m,rfl⟩
structure LenOk(op:Int)(l:A3):Prop where
 one:iD op=1→(l.length:Int)=1
 two:iD op=2→(l.length:Int)=2
 some:iD op= -1→l≠[]
def asV(op:Int)(l:A3):Prop:=aBg (λn=>aqC n op l) (jT op l)
def aEF{op:Int}(h:op=46∨op=47∨op=48∨op=49∨op=50∨op=51∨op=52){a:Ty}(b:Top a):asV op [a]:=by have E:=QK;rcases h with rfl|rfl|rfl|rfl|rfl|rfl|rfl<;>rcases shapes b with rfl|rfl|⟨_,rfl⟩|⟨_,_,rfl⟩|rfl|⟨_,rfl⟩|⟨_,_,rfl⟩|⟨_,rfl⟩<;>exact⟨_,Ev.ret _,rfl⟩
def aGQ{op:Int}(h:op=8∨op=9∨op=27∨op=34∨op=41∨op=42∨op=43∨op=44∨op=45∨op=55∨op=56){a b:Ty}(c:Top a)(d:Top b)(hs:bY op=true->(eB a).isSome=true):asV op [a,b]:=by rcases h with rfl|rfl|rfl|rfl|rfl|rfl|rfl|rfl|rfl|rfl|rfl<;>rcases shapes c with rfl|rfl|⟨_,rfl⟩|⟨_,_,rfl⟩|rfl|⟨_,rfl⟩|⟨_,_,rfl⟩|⟨_,rfl⟩<;>first|exact absurd (hs rfl) Bool.false_ne_true|(rcases shapes d with rfl|rfl|⟨_,rfl⟩|⟨_,_,rfl⟩|rfl|⟨_,rfl⟩|⟨_,_,rfl⟩|⟨_,rfl⟩<;>exact⟨_,Ev.ret _,rfl⟩)
def aGE{op:Int}(h:op=10∨op=11∨op=18∨op=31∨op=32∨op=33∨op=35∨op=54){a b:Ty}(c:Top a):asV op [a,b]:=by have E:=QK;have A:=azD;rcases h with rfl|rfl|rfl|rfl|rfl|rfl|rfl|rfl<;>rcases shapes c with rfl|rfl|⟨_,rfl⟩|⟨_,_,rfl⟩|rfl|⟨_,rfl⟩|⟨_,_,rfl⟩|⟨_,rfl⟩<;>first|exact⟨_,Ev.ret _,rfl⟩|(refine Row.c ?_;apply Exists.intro;apply And.intro;(repeat' first|exact Cu|exact E _ _|exact A _ _|apply e_0);exact CO _ _)
def aGr{op:Int}(h:op=16∨op=17){a b:Ty}(c:Top b):asV op [a,b]:=by have E:=QK;rcases h with rfl|rfl<;>rcases shapes c with rfl|rfl|⟨_,rfl⟩|⟨_,_,rfl⟩|rfl|⟨_,rfl⟩|⟨_,_,rfl⟩|⟨_,rfl⟩<;>first|exact⟨_,Ev.ret _,rfl⟩|(refine Row.c ?_;apply Exists.intro;apply And.intro;(repeat' first|exact Cu|exact E _ _|apply e_0);exact CO _ _)
def aHu{op:Int}(h:op=36∨op=37∨op=38∨op=39∨op=40∨op=53){a b:Ty}(c:Top a)(d:Top b):asV op [a,b]:=by have E:=QK;rcases h with rfl|rfl|rfl|rfl|rfl|rfl<;>rcases shapes c with rfl|rfl|⟨_,rfl⟩|⟨_,_,rfl⟩|rfl|⟨_,rfl⟩|⟨_,_,rfl⟩|⟨_,rfl⟩<;>rcases shapes d with rfl|rfl|⟨_,rfl⟩|⟨_,_,rfl⟩|rfl|⟨_,rfl⟩|⟨_,_,rfl⟩|⟨_,rfl⟩<;>first|exact⟨_,Ev.ret _,rfl⟩|(refine Row.c ?_;apply Exists.intro;apply And.intro;(repeat' first|exact Cu|exact E _ _|apply e_0);exact CO _ _)
def ay8{op:Int}(i:1<=op)(h2:op<=56)(c:op≠20)(d:op≠29){l:A3}(e:∀t∈l,Top t)(f:LenOk op l)(j:bY op=true->(eB (l.headD bH)).isSome=true):aBg (λn=>aqC n op l) (jT op l):=by
 rcases awe i h2 with rfl|rfl|rfl|rfl|rfl|rfl|rfl|rfl|rfl|rfl|rfl|rfl|rfl|rfl|rfl|rfl|rfl|rfl|rfl|rfl|rfl|rfl|rfl|rfl|rfl|rfl|rfl|rfl|rfl|rfl|rfl|rfl|rfl|rfl|rfl|rfl|rfl|rfl|rfl|rfl|rfl|rfl|rfl|rfl|rfl|rfl|rfl|rfl|rfl|rfl|rfl|rfl|rfl|rfl|rfl|rfl<;>first
 |exact absurd rfl c
 |exact absurd rfl d
 |exact⟨_,Ev.ret _,rfl⟩
 |exact Row.c (aBl l _ _ _ _)
 |(obtain⟨a,rfl⟩:=aj7 l (f.one rfl);exact aEF (by decide) (e a cn))
 |(obtain⟨a,b,rfl⟩:=Dz l (f.two rfl)
   have g:=e a cn;have h:=e b cn
   first|exact aGQ (by decide) g h j|exact aGE (by decide) g|exact aGr (by decide) h|exact aHu (by decide) g h)
 |(obtain⟨a,l,rfl⟩:=LH l (f.some rfl);exact Row.c (aFc l))
def asv(l:A3)(t:Ty):Ev (λn=>Oc n l t) (l.all λx=>dI x t):=by
 unfold Oc;have h:=sN l (λn k i=>anN n l t k i) (λn x=>(fA n x t).bind λb=>some (!b)) (λx=>!(dI x t)) false
  (λn k i=>by show cond _ _ _=_;congr 1;congr 1;funext x;simp only[qAW,qAb];rfl)
  (λx _=>e_0 (rQ x t) Cu)
 rw[qm]at h;refine e_0 h ?_;cases l.all λx=>dI x t
 ·exact Cu
 exact Cu
def aJe{op:Int}(h:op=1∨op=2∨op=19){l:A3}(nm:Str)(m:Int)(ty:Ty)(k:Bi):Row (λn=>tJ n (.mk op nm m ty k) l) (jT op l):=by rcases h with rfl|rfl|rfl<;>exact⟨_,Ev.ret _,rfl⟩
def aIA{op:Int}(h:op=3∨op=4∨op=5∨op=6∨op=7){l:A3}(a:∀t∈l,Top t)(nm:Str)(m:Int)(ty:Ty)(k:Bi):Row (λn=>tJ n (.mk op nm m ty k) l) (jT op l):=by
 have A:=asv;rcases h with rfl|rfl|rfl|rfl|rfl<;>
 ·show Row _ (bW (vU 2 l) aY);rw[aIK a];apply Exists.intro;apply And.intro;(repeat' first|exact Cu|exact A _ _|apply e_0);exact CO _ _
def aI5{op:Int}(h:op=12∨op=13∨op=14∨op=15∨op=21∨op=22∨op=23∨op=24∨op=25∨op=26∨op=30){l:A3}(a:∀t∈l,Top t)(nm:Str)(m:Int)(ty:Ty)(k:Bi):Row (λn=>tJ n (.mk op nm m ty k) l) (jT op l):=by
 have A:=asv;rcases h with rfl|rfl|rfl|rfl|rfl|rfl|rfl|rfl|rfl|rfl|rfl<;>
 ·show Row _ (bW (vU 1 l) _);rw[aI7 a];apply Exists.intro;apply And.intro;(repeat' first|exact Cu|exact A _ _|apply e_0);exact CO _ _
def aJq{l:A3}(h:LenOk 28 l)(nm:Str)(m:Int)(ty:Ty)(k:Bi)(b:∀t∈l,Top t):Row (λn=>tJ n (.mk 28 nm m ty k) l) (jT 28 l):=by
 have A:=asv;obtain⟨a,l,rfl⟩:=LH l (h.some rfl);have c:=b a cn;rcases shapes c with rfl|rfl|⟨_,rfl⟩|⟨_,_,rfl⟩|rfl|⟨_,rfl⟩|⟨_,_,rfl⟩|⟨_,rfl⟩<;>
 first
 |exact⟨_,Ev.ret _,rfl⟩
 |(apply Exists.intro;apply And.intro;(repeat' first|exact Cu|exact A _ _|apply e_0);exact CO _ _)
def aF6{op:Int}(h:op=46∨op=47∨op=48∨op=49∨op=50∨op=51∨op=52){l:A3}(b:∀t∈l,Top t)(c:LenOk op l)(nm:Str)(m:Int)(ty:Ty)(k:Bi):Row (λn=>tJ n (.mk op nm m ty k) l) (jT op l):=by
 have E:=rQ;rcases h with rfl|rfl|rfl|rfl|rfl|rfl|rfl<;>
 ·obtain⟨a,rfl⟩:=aj7 l (c.one rfl);have d:=b a cn;rcases shapes d with rfl|rfl|⟨_,rfl⟩|⟨_,_,rfl⟩|rfl|⟨_,rfl⟩|⟨_,_,rfl⟩|⟨_,rfl⟩<;>
  first
  |exact⟨_,Ev.ret _,rfl⟩
  |(apply Exists.intro;apply And.intro;(repeat' first|exact Cu|exact E _ _|apply e_0);exact CO _ _)
def aJA{op:Int}(o:op=8∨op=9∨op=27∨op=34∨op=41∨op=42∨op=43∨op=44∨op=45∨op=55∨op=56){l:A3}(h:∀t∈l,Top t)(c:LenOk op l)(nm:Str)(m:Int)(ty:Ty)(k:Bi):Row (λn=>tJ n (.mk op nm m ty k) l) (jT op l):=by
 have E:=rQ;rcases o with rfl|rfl|rfl|rfl|rfl|rfl|rfl|rfl|rfl|rfl|rfl<;>
 ·obtain⟨a,b,rfl⟩:=Dz l (c.two rfl);have d:=h a cn;have e:=h b cn;rcases shapes d with rfl|rfl|⟨_,rfl⟩|⟨_,_,rfl⟩|rfl|⟨_,rfl⟩|⟨_,_,rfl⟩|⟨_,rfl⟩<;>rcases shapes e with rfl|rfl|⟨_,rfl⟩|⟨_,_,rfl⟩|rfl|⟨_,rfl⟩|⟨_,_,rfl⟩|⟨_,rfl⟩<;>exact⟨_,Ev.ret _,rfl⟩
def aJO{op:Int}(o:op=10∨op=11∨op=18∨op=31∨op=32∨op=33∨op=35∨op=54){l:A3}(h:∀t∈l,Top t)(c:LenOk op l)(nm:Str)(m:Int)(ty:Ty)(k:Bi):Row (λn=>tJ n (.mk op nm m ty k) l) (jT op l):=by
 have E:=rQ;rcases o with rfl|rfl|rfl|rfl|rfl|rfl|rfl|rfl<;>
 ·obtain⟨a,b,rfl⟩:=Dz l (c.two rfl);have d:=h a cn;have e:=h b cn;rcases shapes d with rfl|rfl|⟨_,rfl⟩|⟨_,_,rfl⟩|rfl|⟨_,rfl⟩|⟨_,_,rfl⟩|⟨_,rfl⟩<;>
  first
  |exact⟨_,Ev.ret _,rfl⟩
  |(apply Exists.intro;apply And.intro;(repeat' first|exact Cu|exact E _ _|apply e_0);exact CO _ _)
def aJE{op:Int}(o:op=16∨op=17){l:A3}(h:∀t∈l,Top t)(c:LenOk op l)(nm:Str)(m:Int)(ty:Ty)(k:Bi):Row (λn=>tJ n (.mk op nm m ty k) l) (jT op l):=by
 have E:=rQ;rcases o with rfl|rfl<;>
 ·obtain⟨a,b,rfl⟩:=Dz l (c.two rfl);have d:=h a cn;have f:=h b cn;show Row _ ((eB b).bind λe=>bW (dI a e) aY);rw[aGJ f];rcases shapes d with rfl|rfl|⟨_,rfl⟩|⟨_,_,rfl⟩|rfl|⟨_,rfl⟩|⟨_,_,rfl⟩|⟨_,rfl⟩<;>
  first
  |exact⟨_,Ev.ret _,rfl⟩
  |(apply Exists.intro;apply And.intro;(repeat' first|exact Cu|exact E _ _|apply e_0);exact CO _ _)
def aIU{op:Int}(o:op=37∨op=38){l:A3}(h:∀t∈l,Top t)(d:LenOk op l)(nm:Str)(m:Int)(ty:Ty)(k:Bi):Row (λn=>tJ n (.mk op nm m ty k) l) (jT op l):=by
 have E:=rQ;rcases o with rfl|rfl<;>
 ·obtain⟨a,b,rfl⟩:=Dz l (d.two rfl);have c:=h a cn;have e:=h b cn;rcases shapes e with rfl|rfl|⟨_,rfl⟩|⟨_,_,rfl⟩|rfl|⟨_,rfl⟩|⟨_,_,rfl⟩|⟨_,rfl⟩<;>
  first
  |(rcases shapes c with rfl|rfl|⟨_,rfl⟩|⟨_,_,rfl⟩|rfl|⟨_,rfl⟩|⟨_,_,rfl⟩|⟨_,rfl⟩<;>exact⟨_,Ev.ret _,rfl⟩)
  |(show Row _ ((eB a).bind λz=>bW (dI z _) _);rw[aDV c];apply Exists.intro;apply And.intro;(repeat' first|exact Cu|exact E _ _|apply e_0);exact CO _ _)
def aJh{op:Int}(o:op=39∨op=40∨op=53){l:A3}(h:∀t∈l,Top t)(c:LenOk op l)(nm:Str)(m:Int)(ty:Ty)(k:Bi):Row (λn=>tJ n (.mk op nm m ty k) l) (jT op l):=by
 have E:=rQ;rcases o with rfl|rfl|rfl<;>
 ·obtain⟨a,b,rfl⟩:=Dz l (c.two rfl);have d:=h a cn;have e:=h b cn;rcases shapes d with rfl|rfl|⟨_,rfl⟩|⟨_,_,rfl⟩|rfl|⟨_,rfl⟩|⟨_,_,rfl⟩|⟨_,rfl⟩<;>
  first
  |exact⟨_,Ev.ret _,rfl⟩
  |(show Row _ ((eB b).bind λz=>bW (dI z _) _);rw[aDV e];apply Exists.intro;apply And.intro;(repeat' first|exact Cu|exact E _ _|apply e_0);exact CO _ _)
def aHX(x y z u:Ty)(nm:Str)(m:Int)(ty:Ty)(k:Bi):Row (λn=>tJ n (.mk 36 nm m ty k) [au (aR x y),au (aR z u)]) (jT 36 [au (aR x y),au (aR z u)]):=by refine⟨(cond (dI y z) (au (aR x u)) bH,dI y z),?_,aJK _ _⟩;have E:=rQ y z;generalize dI y z=q at E|-;cases q<;>(repeat' first|exact Cu|exact E|apply e_0)
def aIw{l:A3}(h:∀t∈l,Top t)(c:LenOk 36 l)(nm:Str)(m:Int)(ty:Ty)(k:Bi):Row (λn=>tJ n (.mk 36 nm m ty k) l) (jT 36 l):=by obtain⟨a,b,rfl⟩:=Dz l (c.two rfl);rcases shapes (h a cn)with rfl|rfl|⟨_,rfl⟩|⟨_,_,rfl⟩|rfl|⟨_,rfl⟩|⟨_,_,rfl⟩|⟨_,rfl⟩<;>rcases shapes (h b cn)with rfl|rfl|⟨_,rfl⟩|⟨_,_,rfl⟩|rfl|⟨_,rfl⟩|⟨_,_,rfl⟩|⟨_,rfl⟩<;>first|exact⟨_,Ev.ret _,rfl⟩|exact aHX _ _ _ _ _ _ _ _
def ayR{op:Int}(r:1<=op)(h2:op<=56)(b:op≠20)(c:op≠29){l:A3}(h:∀t∈l,Top t)(a:LenOk op l)(nm:Str)(m:Int)(ty:Ty)(k:Bi):Row (λn=>tJ n (.mk op nm m ty k) l) (jT op l):=by
 by_cases d:op=1∨op=2∨op=19;·exact aJe d nm m ty k
 by_cases e:op=3∨op=4∨op=5∨op=6∨op=7;·exact aIA e h nm m ty k
 by_cases f:op=12∨op=13∨op=14∨op=15∨op=21∨op=22∨op=23∨op=24∨op=25∨op=26∨op=30;·exact aI5 f h nm m ty k
 by_cases g:op=28;·subst g;exact aJq a nm m ty k h
 by_cases i:op=36;·subst i;exact aIw h a nm m ty k
 by_cases j:op=16∨op=17;·exact aJE j h a nm m ty k
 by_cases o:op=37∨op=38;·exact aIU o h a nm m ty k
 by_cases p:op=39∨op=40∨op=53;·exact aJh p h a nm m ty k
 by_cases q:op=10∨op=11∨op=18∨op=31∨op=32∨op=33∨op=35∨op=54;·exact aJO q h a nm m ty k
 by_cases s:46<=op/\op<=52;·exact aF6 Cl h a nm m ty k
 exact aJA Cl h a nm m ty k
def aD0{α σ τ ρ:Type}(l:List α)(L:Nat->Nat->Int->σ->Option (LR τ ρ))(t:Nat->Int->α->σ->Option (LR σ ρ))(a:Int->α->σ->LR σ ρ)(f:σ->τ)(I:Int->List α->σ->Prop)
  (h0:∀n k s,L n (k+1) (l.length:Int) s=some (.nx (f s)))
  (v:∀n k i x s,idx l i=some x->decide (i<(l.length:Int))=true->L n (k+1) i s=(t n i x s).bind (LR.el (λs'=>L n k (i+1) s') (λr=>some (.rt r))))
  (z:∀i x u s,x∈l->I i (x::u) s->idx l i=some x->Ev (λn=>t n i x s) (a i x s)/\∀s',a i x s=.nx s'->I (i+1) u s') {s0:σ} (g:I 0 l s0):Ev (λn=>L n n 0 s0) (lu a f 0 l s0):=by
 have y:∀(u p:List α) (s:σ),l=p++u->I (p.length:Int) u s->∃N,∀n,N<=n->∀k,u.length+1<=k->L n k (p.length:Int) s=some (lu a f (p.length:Int) u s):=by
  intro u
  induction u with
  |nil=>
   intro p s h _;refine⟨0,λn _ k b=>?_⟩;cases k with
   |zero=>simp at b
   |succ k=>
    have e:p.length=l.length:=by rw[h];simp
    rw[e,h0];rfl
  |cons x u A=>
   intro p s h j;have m:idx l (p.length:Int)=some x:=by rw[h];exact gJ p x u
   let⟨⟨o,d⟩,B⟩:=z _ x u s (by rw[h];simp) j m;replace d:∀n,o<=n->t n (p.length:Int) x s=some (a (p.length:Int) x s):=d;have w:decide ((p.length:Int)<(l.length:Int))=true:=d_1 (by rw[h];simp;omega);cases c:a (p.length:Int) x s with
   |rt r=>
    refine⟨o,λn q k b=>?_⟩;cases k with
    |zero=>simp at b
    |succ k=>
     rw[v n k _ x s m w,d n q,c];simp[lu,c]
   |nx s'=>
    have C:=B s' c;have e:((p++[x]).length:Int)=(p.length:Int)+1:=by simp
    let⟨D,E⟩:=A (p++[x]) s' (by rw[h];simp) (by rw[e];exact C);refine⟨max o D,λn q k b=>?_⟩;cases k with
    |zero=>simp at b
    |succ k=>
     rw[v n k _ x s m w,d n Cl,c];simp only[qAb,LR.el];have:=E n Cl k (by simp at b;omega);rw[e]at this;rw[this];simp[lu,c]
 let⟨N,F⟩:=y l [] s0 rfl g;exact⟨max N (l.length+1),λn q=>F n Cl n Cl⟩
def Wf(d:Int)(t:Tm):Prop:=∃c,0<=c/\(mf t d c).1=true
def avQ:∀(s:Bi) (d c:Int),0<=c->(Cc s d c).1=true->c+s.length<=(Cc s d c).2/\∀t∈s,Wf d t
 |[],_,c,_,_=>by simp[Cc]
 |t::s,d,c,a,h=>by
  simp only[Cc]at h|-;cases b:(mf t d c).1 with
  |false=>rw[b]at h;cases h
  |true=>
   rw[b]at h;simp only[c_1]at h|-;have f:=adT t d c b;let⟨g,e⟩:=avQ s d _ Cl h;refine⟨by simp only[qAp];omega,λu hu=>?_⟩;rcases qAh.1 hu with rfl|hu
   ·exact⟨_,a,b⟩
   exact e u hu
def Wf.node{op:Int}{nm:Str}{m:Int}{ty:Ty}{k:Bi}{d:Int}(h:Wf d (.mk op nm m ty k)):qV (.mk op nm m ty k)=true/\d<=64/\k.length<=2000/\∀t∈k,Wf (d+1) t:=by
 let⟨c,a,h⟩:=h;simp only[mf]at h;cases b:((decide (c+1<=2000)&&decide (d<=64))&&qV (.mk op nm m ty k))with|false=>rw[b]at h;cases h|true=>
  rw[b]at h;let⟨e,f⟩:=avQ _ _ _ Cl h;have g:=asb k _ _ h
  grind
def sP{t:Tm}(h:cO t=true):Wf 1 t:=⟨0,by omega,h⟩
def axS{op:Int}(h:(iD op== -2)=false):1<=op/\op<=56:=by
 by_cases r:1<=op/\op<=56;·exact r
 exfalso;have e:iD op= -2:=by
  unfold iD
  grind
 grind
def UW{op:Int}{nm:Str}{m:Int}{ty:Ty}{k:Bi}(h:qV (.mk op nm m ty k)=true):(1<=op/\op<=56)/\(op=20->k=[])/\(op=29->k=[]/\bA ty=true/\(ty.kind==2)=false)/\(∀l:A3,l.length=k.length->LenOk op l)/\(bY op=true->∃x y,k=[x,y]):=by
 simp only[qV,qAa,BU,Tm.op,Tm.kids,qAV]at h;let⟨⟨c,g⟩,_,_,d⟩:=h;have n:∀q:Int,iD op=q->(q== -1)=false->(k.length:Int)=q:=λq e j=>by
  grind
 have i:iD op=0->k=[]:=λe=>by
  simp_all
 refine⟨axS c,λe=>i (by subst e;rfl),λe=>⟨i (by subst e;rfl),?_⟩,λl a=>⟨λe=>by rw[a];exact n 1 e rfl,λe=>by rw[a];exact n 2 e rfl,λe=>?_⟩,λb=>?_⟩
 ·subst e;have f:(bA ty&&ty.kind !=2)=true:=d
  grind
 ·grind
 have:iD op=2:=by
  simp only[bY,qBe,beq_iff_eq]at b;rcases b with rfl|rfl|rfl|rfl<;>rfl
 let⟨x,y,e⟩:=Dz k (n 2 this rfl)
 grind
inductive TR where
 |ok (t:Ty)
 |er (e:Int) (p:A2)
inductive KR where
 |ok (l:A3)
 |er (e:Int) (p:A2)
def nJ(e:Env)(c:A4)(s:Str):B7:=match c.find? (λd=>d.name==s)with|some d=>some d.ty|none=>look e s
def rJ(o:B7):TR:=match o with|some t=>cond (bA t) (.ok t) (.er 5 [])|none=>.er 7 []
def knows(e:Env)(t:Ty):Bool:=(dX t).all (dP e)
def qc(b:Bool)(nm:Str)(ty:Ty)(s:A4):Option A4:=cond b ((eB ty).map λe=>⟨nm,e⟩::s) (some s)
mutual
def bX(env:Env):A4→Tm→TR
 |sc,.mk op nm _ ty ks=>
  cond (op==20) (match nJ env sc nm with|some t=>.ok t|none=>.er 6 [])
   (cond (op==29&&!(knows env ty)) (.er 6 [])
    (match bV env sc (bY op) nm 0 ks with
     | .er e p=>.er e p
     | .ok l=>rJ (cond (op==29) (some (au ty)) (jT op l))))
def bV(env:Env):A4→Bool→Str→Int→Bi→KR
 |_,_,_,_,[]=>.ok []
 |sc,b,nm,i,t::ts=>match bX env sc t with
  | .er e p=>.er e (i::p)
  | .ok ty=>match qc b nm ty sc with
   |none=>.er 7 []
   |some sc'=>match bV env sc' false nm (i+1) ts with
    | .er e p=>.er e p
    | .ok l=>.ok (ty::l)
end
def GoodS(s:A4):Prop:=∀d∈s,Good d.ty
def aun{t:Ty}(h:bA t=true)(b:zU 2 t=false):Good t:=by
 rcases UH h with rfl|h
 ·cases b
 exact h
def azO{n:Env}(h:aW n=true){s:Str}{t:Ty}(ht:look n s=some t):Good t:=by
 rw[Ae h]at ht;rcases qAr.1 ht with ht|ht
 ·let⟨c,i,ht⟩:=qBx.1 ht;rcases qAh.1 ht with ht|ht
  ·cases ht;exact .set (.car _)
  let⟨e,_,a⟩:=qAJ.1 ht;cases a;exact .car _
 let⟨d,b,a⟩:=qAJ.1 ht;cases a;let⟨_,f,g,_⟩:=Po h b;exact aun f g
def Yx{e:Env}(h:aW e=true){c:A4}(hs:GoodS c){s:Str}{t:Ty}(a:nJ e c s=some t):Good t:=by unfold nJ at a;cases f:c.find? (λd=>d.name==s)with|some d=>rw[f]at a;cases a;exact hs d (List.mem_of_find?_eq_some f)|none=>rw[f]at a;exact azO h a
def Qu{o:B7}{t:Ty}(h:rJ o=.ok t):o=some t/\bA t=true:=by
 cases o with|none=>cases h|some u=>
  simp only[rJ]at h
  grind
def auI{o:B7}{e:Int}{p:A2}(h:rJ o=.er e p):e≠0/\p=[]:=by
 cases o with|none=>cases h;exact⟨by decide,rfl⟩|some u=>
  simp only[rJ]at h
  grind
def Pq{b:Bool}{nm:Str}{ty:Ty}{c s:A4}(t:Top ty)(hs:GoodS c)(h:qc b nm ty c=some s):GoodS s:=by
 unfold qc at h;cases b with|false=>cases h;exact hs|true=>
  cases a:eB ty with|none=>rw[a]at h;cases h|some e=>
   rw[a]at h;cases h;intro d hd;rcases qAh.1 hd with rfl|hd
   ·exact(jV t a).1
   exact hs d hd
def sV{n:Env}(h:aW n=true){t:Tm}{s:A4}(hs:GoodS s){ty:Ty}(a:bX n s t=.ok ty):Top ty:=by
 let⟨o,nm,m,u,f⟩:=t;simp only[bX]at a;cases b:(o==20)with
 |true=>
  rw[b]at a;cases d:nJ n s nm with
  |none=>rw[d]at a;cases a
  |some t=>rw[d]at a;cases a;exact .inr (Yx h hs d)
 |false=>
  rw[b]at a;cases c:(o==29&&!(knows n u))with
  |true=>rw[c]at a;cases a
  |false=>
   rw[c]at a;cases k:bV n s (bY o) nm 0 f with
   |er e p=>rw[k]at a;cases a
   |ok l=>rw[k]at a;exact UH (Qu a).2
def akY{n:Env}(h:aW n=true):∀(s:Bi) (c:A4) (b:Bool) (nm:Str) (i:Int) (l:A3),GoodS c->bV n c b nm i s=.ok l->l.length=s.length/\(∀t∈l,Top t)/\(b=true->s≠[]->(eB (l.headD bH)).isSome=true)
 |[],c,b,nm,i,l,_,k=>by
  simp only[bV]at k;cases k;exact⟨rfl,λt d=>(by cases d),λ_ h=>absurd rfl h⟩
 |t::s,c,b,nm,i,l,j,k=>by
  simp only[bV]at k;cases d:bX n c t with
  |er e p=>rw[d]at k;cases k
  |ok y=>
   rw[d]at k;simp only at k;have o:=sV h j d;cases a:qc b nm y c with
   |none=>rw[a]at k;cases k
   |some f=>
    rw[a]at k;simp only at k;cases r:bV n f false nm (i+1) s with
    |er e p=>rw[r]at k;cases k
    |ok m=>
     rw[r]at k;cases k;let⟨q,v,_⟩:=akY h s f false nm (i+1) m (Pq o j a) r;refine⟨by simp[q],λu hu=>?_,λg _=>?_⟩
     ·rcases qAh.1 hu with rfl|hu
      ·exact o
      exact v u hu
     subst g;show(eB y).isSome=true;unfold qc at a;cases w:eB y with
     |none=>rw[w]at a;cases a
     |some e=>rfl
mutual
theorem IG{env:Env}:∀(t:Tm) (sc:A4) (e:Int) (p:A2),bX env sc t=.er e p→e≠0
 | .mk op nm m u ks,sc,e,p,h=>by
  simp only[bX]at h;cases h20:(op==20)with
  |true=>
   rw[h20]at h;simp only[cond_true]at h;cases hl:nJ env sc nm with
   |none=>rw[hl]at h;cases h;decide
   |some t=>rw[hl]at h;cases h
  |false=>
   rw[h20]at h;simp only[cond_false]at h;cases h29:(op==29&&!(knows env u))with
   |true=>rw[h29]at h;cases h;decide
   |false=>
    rw[h29]at h;simp only[cond_false]at h;cases hk:bV env sc (bY op) nm 0 ks with
    |er e' p'=>rw[hk]at h;cases h;exact auB ks sc _ nm 0 _ _ hk
    |ok l=>rw[hk]at h;exact(auI h).1
theorem auB{env:Env}:∀(ts:Bi) (sc:A4) (b:Bool) (nm:Str) (i:Int) (e:Int) (p:A2),bV env sc b nm i ts=.er e p→e≠0
 |[],sc,b,nm,i,e,p,h=>by simp only[bV]at h;cases h
 |t::ts,sc,b,nm,i,e,p,h=>by
  simp only[bV]at h;cases ht:bX env sc t with
  |er e' p'=>rw[ht]at h;cases h;exact IG t sc _ _ ht
  |ok ty=>
   rw[ht]at h;simp only at h;cases hb:qc b nm ty sc with
   |none=>rw[hb]at h;cases h;decide
   |some sc'=>
    rw[hb]at h;simp only at h;cases hr:bV env sc' false nm (i+1) ts with
    |er e' p'=>rw[hr]at h;cases h;exact auB ts sc' false nm _ _ _ hr
    |ok l'=>rw[hr]at h;cases h
end
mutual
theorem ab0{env:Env}:∀{t:Tm} {d:Int} (_:Wf d t) (sc:A4) (e:Int) (p:A2),bX env sc t=.er e p→(p.length:Int)+d≤64
 | .mk op nm m u ks,d,hw,sc,e,p,h=>by
  obtain⟨_,hd,_,hkw⟩:=hw.node;simp only[bX]at h;cases h20:(op==20)with
  |true=>
   rw[h20]at h;simp only[cond_true]at h;cases hl:nJ env sc nm with
   |none=>rw[hl]at h;cases h;simpa using hd
   |some t=>rw[hl]at h;cases h
  |false=>
   rw[h20]at h;simp only[cond_false]at h;cases h29:(op==29&&!(knows env u))with
   |true=>rw[h29]at h;cases h;simpa using hd
   |false=>
    rw[h29]at h;simp only[cond_false]at h;cases hk:bV env sc (bY op) nm 0 ks with
    |er e' p'=>rw[hk]at h;cases h;exact amS ks d hd hkw sc _ nm 0 _ _ hk
    |ok l=>rw[hk]at h;rw[(auI h).2];simpa using hd
theorem amS{env:Env}:∀(ts:Bi) (d:Int) (_:d≤64) (_:∀t∈ts,Wf (d+1) t) (sc:A4) (b:Bool) (nm:Str) (i:Int) (e:Int) (p:A2),bV env sc b nm i ts=.er e p→(p.length:Int)+d≤64
 |[],d,_,_,sc,b,nm,i,e,p,h=>by simp only[bV]at h;cases h
 |t::ts,d,hd,hw,sc,b,nm,i,e,p,h=>by
  simp only[bV]at h;cases ht:bX env sc t with
  |er e' p'=>
   rw[ht]at h;cases h;have:=ab0 (hw t (qBB ..)) sc _ _ ht;simp only[qAp,qCP,qCQ];omega
  |ok ty=>
   rw[ht]at h;simp only at h;cases hb:qc b nm ty sc with
   |none=>rw[hb]at h;cases h;simpa using hd
   |some sc'=>
    rw[hb]at h;simp only at h;cases hr:bV env sc' false nm (i+1) ts with
    |er e' p'=>rw[hr]at h;cases h;exact amS ts d hd (fun u hu=>hw u (qAk _ hu)) sc' false nm _ _ _ hr
    |ok l'=>rw[hr]at h;cases h
end
inductive RR(β:Type) where
 |ok (v:β)
 |er (e:Int)
abbrev VR:=RR Val
abbrev xU:=RR Af
def RR.thn{β a:Type}(r:RR β)(f:β->RR a):RR a:=match r with| .ok v=>f v| .er e=>.er e
def aN:List VR->xU|[]=>.ok []| .er e::_=>.er e| .ok v::r=>match aN r with| .er e=>.er e| .ok l=>.ok (v::l)
def v0:Val:=.mk 0 0 [] []
def iY(n:Int):Val:=.mk 1 n [] []
def aO(b:Bool):Val:=cond b (.mk 2 1 [] []) (.mk 2 0 [] [])
def aG(a b:Val):Val:=.mk 4 0 [] [a,b]
def mkSet(l:Af):Val:=.mk 5 0 [] l
def gH(l:Af):Val:=mkSet (sortV l)
def aJ(p:Val):Val:=p.kids.headD v0
def aQ(p:Val):Val:=(p.kids.drop 1).headD v0
def eD(a b:Val):Bool:=bQ a b==0
def aF(l:Af)(x:Val):Bool:=l.any λy=>eD y x
def ab1(n:Int):Bool:=decide (1000000000<n) ||decide (n< -1000000000)
def gM(n:Int):VR:=cond (ab1 n) (.er 11) (.ok (iY n))
def bF(l:Af):VR:=cond (decide (256<((sortV l).length:Int))) (.er 11) (.ok (gH l))
def d9(l:Af):Af:=sortV (l.map aJ)
def bC(l:Af):Af:=sortV (l.map aQ)
def ints(a:Int):Nat->Af|0=>[]|n+1=>iY a::ints (a+1) n
def fU(l m:Af):Bool:=(l.length:Int)==(m.length:Int)
def lC(op:Int)(a b l:Af):Bool:=
 l.all (λp=>aF a (aJ p)&&aF b (aQ p))&&
 cond (op==41) true (cond (op==42) (fU (d9 l) l) (cond (op==43) (fU (d9 l) l&&fU (d9 l) a)
  (cond (op==44) (fU (d9 l) l&&(fU (d9 l) a&&fU (bC l) l)) (fU (d9 l) l&&(fU (d9 l) a&&(fU (bC l) l&&fU (bC l) b))))))
def jr(l:Af):List Af:=l.foldl (λo x=>o++o.map λr=>r++[x]) [[]]
def kX(op m n:Int):Bool:=cond (op==45&&m !=n) true (decide (44<=op)&&decide (n<m))
def yQ(op n i:Int):Int:=cond (op==41) (2^n.toNat) (cond (op==42) (n+1) (cond (op==44 ||op==45) (n - i) n))
def je(op n:Int):Nat->Int->Int->Bool|0,_,_=>false|k+1,i,c=>cond (op==41&&decide (8<n)) true (cond (yQ op n i==0) false (cond (decide (256<c*yQ op n i)) true (je op n k (i+1) (c*yQ op n i))))
def iM(op:Int)(a b:Af):Af->Af->Af
 |[],l=>cond (lC op a b l) [gH l] []
 |x::s,l=>cond (op==41) ((jr b).flatMap λi=>iM op a b s (l++i.map (aG x)))
  (cond (op==42) (iM op a b s l) []++b.flatMap λv=>cond (decide (44<=op)&&aF (bC l) v) [] (iM op a b s (l++[aG x v])))
def l8(op:Int)(a b:Af):xU:=
 cond (kX op a.length b.length) (.ok []) (cond (je op b.length a.length 0 1) (.er 11) (.ok (iM op a b a [])))
def sF(op:Int)(a b:Val):xU:=
 cond (op==30) (cond (decide (256<=b.n - a.n)) (.er 11) (.ok (ints a.n (b.n+1 - a.n).toNat))) <|
 cond (op==31) (.ok (a.kids++b.kids)) <|
 cond (op==32) (.ok (a.kids.filter (aF b.kids))) <|
 cond (op==33) (.ok (a.kids.filter λx=>!aF b.kids x)) <|
 cond (op==34) (cond (decide (256<(a.kids.length:Int)*b.kids.length)) (.er 11) (.ok (a.kids.flatMap λx=>b.kids.map (aG x)))) <|
 cond (op==35) (.ok (a.kids.filter (λp=>!aF (d9 b.kids) (aJ p))++b.kids)) <|
 cond (op==36) (.ok (a.kids.flatMap λp=>b.kids.flatMap λq=>cond (eD (aQ p) (aJ q)) [aG (aJ p) (aQ q)] [])) <|
 cond (op==37) (.ok (b.kids.filter λp=>aF a.kids (aJ p))) <|
 cond (op==38) (.ok (b.kids.filter λp=>!aF a.kids (aJ p))) <|
 cond (op==39) (.ok (a.kids.filter λp=>aF b.kids (aQ p))) <|
 cond (op==40) (.ok (a.kids.filter λp=>!aF b.kids (aQ p))) <|
 cond (op==46) (cond (decide (8<(a.kids.length:Int))) (.er 11) (.ok ((jr a.kids).map mkSet))) <|
 cond (op==50) (.ok (d9 a.kids)) <|
 cond (op==51) (.ok (bC a.kids)) <|
 cond (op==52) (.ok (a.kids.map λp=>aG (aQ p) (aJ p))) <|
 cond (op==53) (.ok (bC (a.kids.filter λp=>aF b.kids (aJ p)))) <|
 l8 op a.kids b.kids
def ai1(op a b:Int):VR:=
 cond (op==21) (gM (-a)) <|
 cond (op==22) (gM (a+b)) <|
 cond (op==23) (gM (a - b)) <|
 cond (op==24) (gM (a*b)) <|
 cond (op==25) (cond (b==0) (.er 10) (gM (Int.tdiv a b))) <|
 cond (decide (a<0) ||decide (b<1)) (.er 10) (gM (Int.tmod a b))
def LV(a b:Val):VR:=match a.kids.filter λp=>eD (aJ p) b with|[p]=>.ok (aQ p)|_=>.er 10
def CG(op:Int)(a b:Val):VR:=
 cond (op==3) (.ok (aO (a.n==0))) <|
 cond (op==7) (.ok (aO (a.n==b.n))) <|
 cond (op==10) (.ok (aO (eD a b))) <|
 cond (op==11) (.ok (aO (!eD a b))) <|
 cond (op==12) (.ok (aO (decide (a.n<b.n)))) <|
 cond (op==13) (.ok (aO (decide (a.n<=b.n)))) <|
 cond (op==14) (.ok (aO (decide (b.n<a.n)))) <|
 cond (op==15) (.ok (aO (decide (b.n<=a.n)))) <|
 cond (op==27) (.ok (aG a b)) <|
 cond (op==54) (LV a b) <|
 cond (decide (op<=26)) (ai1 op a.n b.n) <|
 cond (op==47) (gM a.kids.length) <|
 cond (op==48) (match a.kids with|[]=>.er 10|x::_=>.ok x) <|
 cond (op==49) (match a.kids.getLast? with|none=>.er 10|some x=>.ok x) <|
 (sF op a b).thn bF
def iO(op:Int):Bool:=decide (41<=op)&&decide (op<=46)
def iB(op:Int)(l:Af)(x:Val):Bool:=
 cond (iO op) (cond (op==46) (x.kids.all (aF (l.headD v0).kids)) (lC op (l.headD v0).kids ((l.drop 1).headD v0).kids x.kids)) (aF (l.headD v0).kids x)
def nZ(op:Int)(xs ys:Af):VR:=
 cond (op==8) (.ok (aO (ys.all λy=>y.n==1))) <|
 cond (op==9) (.ok (aO (ys.any λy=>y.n==1))) <|
 bF ((xs.zip ys).flatMap λp=>cond (op==56) [aG p.1 p.2] (cond (p.2.n==1) [p.1] []))
abbrev Sem:=At->VR
structure Kd where
 op:Int
 f:Sem
 gs:List Sem
def kd0:Kd:=⟨0,λ_=>.er 0,[]⟩
def vv(k:Kd)(b:At):xU:=cond (iO k.op) (aN (k.gs.map λg=>g b)) (aN [k.f b])
def X9(op:Int)(k:Kd)(b:At)(x:Val):VR:=(vv k b).thn λl=>.ok (aO (cond (op==18) (x.kids.all (iB k.op l)) (iB k.op l x==(op==16))))
def fH(f:Sem)(nm:Str)(b:At)(xs:Af):xU:=aN (xs.map λx=>f (⟨nm,x⟩::b))
def bB(op:Int)(l:Af):VR:=cond (op==28) (bF l) (CG op (l.headD v0) ((l.drop 1).headD v0))
def Ml(g:Str->Val)(a:At)(s:Str):Val:=match a.find? (λb=>b.name==s)with|some b=>b.v|none=>g s
def Za(g:Str->Val)(op:Int)(nm:Str)(m:Int)(a:List Kd)(b:At):VR:=
 let c:=a.headD kd0
 let d:=(a.drop 1).headD kd0
 cond (op==1 ||op==2) (.ok (aO (op==1))) <|
 cond (op==19) (gM m) <|
 cond (op==20) (.ok (Ml g b nm)) <|
 cond (op==29) (.ok (mkSet [])) <|
 cond (op==4 ||(op==5 ||op==6)) ((c.f b).thn λp=>cond (op==4&&!(p.n==1)) (.ok (aO false)) (cond ((op==5&&p.n==1) ||(op==6&&!(p.n==1))) (.ok (aO true)) (d.f b))) <|
 cond (bY op) ((c.f b).thn λs=>(fH d.f nm b s.kids).thn λy=>nZ op s.kids y) <|
 cond (op==16 ||(op==17 ||op==18)) ((c.f b).thn (X9 op d b)) <|
 (aN (a.map λk=>k.f b)).thn (bB op)
mutual
def aj(g:Str→Val):Tm→Sem
 | .mk op nm m _ ks=>Za g op nm m (agi g ks)
def agi(g:Str→Val):Bi→List Kd
 |[]=>[]
 | .mk op nm m _ ks::ts=>⟨op,Za g op nm m (agi g ks),aqv g ks⟩::agi g ts
def aqv(g:Str→Val):Bi→List Sem
 |[]=>[]
 | .mk op nm m _ ks::ts=>Za g op nm m (agi g ks)::aqv g ts
end
def nu(g:Str->Val)(t:Tm):Kd:=⟨t.op,aj g t,t.kids.map (aj g)⟩
def auL(g:Str->Val):∀t:Bi,aqv g t=t.map (aj g)|[]=>by rw[aqv,qCM]| .mk o nm m y k::t=>by rw[aqv,qAy,aj,auL g t]
def awc(g:Str->Val):∀t:Bi,agi g t=t.map (nu g)|[]=>by rw[agi,qCM]| .mk o nm m y k::t=>by rw[agi,qAy,nu,aj,awc g t,auL];rfl
def bG(g:Str->Val)(op:Int)(nm:Str)(m:Int)(ty:Ty)(k:Bi):aj g (.mk op nm m ty k)=Za g op nm m (k.map (nu g)):=by rw[aj,awc]
end Abs
end Go.Proofs.YtneeginmfjageaaGreat

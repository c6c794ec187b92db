/-
  The type of a term: the plain function, and that the program's checker and the document's function come to it. Conditions: valid environments and terms; lemmas without a program.
-/
import Derived.Test.YtneeginmfjageaaGreatCP7oxae2560
set_option linter.all false
namespace Go.Proofs.YtneeginmfjageaaGreat
namespace Abs
open Go
theorem aCc{α σ τ ρ} l (L:Nat->Nat->Int->σ->Option (LR τ ρ))(t:Nat->Int->α->σ->Option (LR σ ρ)) st fin (I:Int->List α->σ->Prop)
  (h0:∀n k s,L n (k+1) (l.length:Int) s=some (.nx (fin s)))
  (o:∀n k i x s,idx l i=some x->decide (i<(l.length:Int))=true->L n (k+1) i s=(t n i x s).bind (LR.el (λs'=>L n k (i+1) s') (λr=>some (.rt r))))
  (v:∀i x u s,x∈l->I i (x::u) s->idx l i=some x->Ev (λn=>t n i x s) (st i x s)/\∀s',st i x s=.nx s'->I (i+1) u s') {s0} (d:I 0 l s0):Ev (λn=>L n n 0 s0) (jZ st fin 0 l s0):=by
 have y:∀(u p:List α) (s:σ),l=p++u->I (p.length:Int) u s->∃N,∀n,N<=n->∀k,u.length+1<=k->L n k (p.length:Int) s=some (jZ st fin (p.length:Int) u s):=by
  intro u
  induction u with
  |nil=>
   intro p s h _;refine⟨0,λn _ k a=>?_⟩;cases k with
   |zero=>simp at a|succ k=>
    have e:p.length=l.length:=by rw[h];simp
    rw[e,h0];rfl
  |cons x u w=>
   intro p s h f;have g:idx l (p.length:Int)=some x:=by rw[h];exact gV p x u
   obtain⟨⟨j,c⟩,z⟩:=v _ x u s (by rw[h];simp) f g;replace c:∀n,j<=n->t n (p.length:Int) x s=some (st (p.length:Int) x s):=c;have q:decide ((p.length:Int)<(l.length:Int))=true:=decide_eq_true (by rw[h];simp;omega);cases b:st (p.length:Int) x s with
   |rt r=>
    refine⟨j,λn m k a=>?_⟩;cases k with
    |zero=>simp at a|succ k=>rw[o n k _ x s g q,c n m,b];simp[jZ,b]
   |nx s'=>
    have A:=z s' b;have e:((p++[x]).length:Int)=(p.length:Int)+1:=by simp
    obtain⟨B,C⟩:=w (p++[x]) s' (by rw[h];simp) (by rw[e];exact A);refine⟨max j B,λn m k a=>?_⟩;cases k with|zero=>simp at a|succ k=>rw[o n k _ x s g q,c n (by omega),b];simp only[qAa,LR.el];have:=C n (by omega) k (by simp at a;omega);rw[e]at this;rw[this];simp[jZ,b]
 obtain⟨N,D⟩:=y l [] s0 rfl d;exact⟨max N (l.length+1),λn m=>D n (by omega) n (by omega)⟩
def Wf d t:=∃c,0<=c/\(mf t d c).1=true
theorem aum:∀s d c,0<=c->(Aw s d c).1=true->c+s.length<=(Aw s d c).2/\∀t∈s,Wf d t
 |[],_,c,_,_=>by simp[Aw]|t::s,d,c,e,h=>by
  simp only[Aw]at h|-;cases b:(mf t d c).1 with|false=>rw[b]at h;cases h|true=>
   rw[b]at h;simp only[cond_true]at h|-;have g:=ab2 t d c b;obtain⟨i,f⟩:=aum s d _ (by omega) h;refine⟨by simp only[qAo];omega,λu a=>?_⟩;rcases qAh.1 a with rfl|a
   ·exact⟨_,e,b⟩
   exact f u a
theorem Wf.node{op nm m ty k d}(h:Wf d (.mk op nm m ty k)):rW (.mk op nm m ty k)=true/\d<=64/\k.length<=2000/\∀t∈k,Wf (d+1) t:=by
 obtain⟨c,a,h⟩:=h;simp only[mf]at h;cases b:((decide (c+1<=2000)&&decide (d<=64))&&rW (.mk op nm m ty k))with|false=>rw[b]at h;cases h|true=>
  rw[b]at h;obtain⟨e,f⟩:=aum _ _ _ (by omega) h;have g:=arO k _ _ h
  grind
theorem Br{t}(h:dH t=true):Wf 1 t:=⟨0,by omega,h⟩
theorem awo{op}(h:(gN op== -2)=false):1<=op/\op<=56:=by
 by_cases r:1<=op/\op<=56;·exact r
 exfalso;have e:gN op= -2:=by
  unfold gN
  grind
 grind
theorem abv{op}{nm}{m}{ty}{k}(h:rW (.mk op nm m ty k)=true):(1<=op/\op<=56)/\(op=20->k=[])/\(op=29->k=[]/\dI ty=true/\(ty.kind==2)=false)/\(∀l:List Ty,l.length=k.length->LenOk op l)/\(cO op=true->∃x y,k=[x,y]):=by
 simp only[rW,qAb,Ak,Tm.op,Tm.kids,qAS]at h;obtain⟨⟨b,f⟩,_,_,c⟩:=h;have n:∀q:Int,gN op=q->(q== -1)=false->(k.length:Int)=q:=λq e g=>by grind
 have i:gN op=0->k=[]:=λe=>by simp_all
 refine⟨awo b,λe=>i (by subst e;rfl),λe=>⟨i (by subst e;rfl),?_⟩,λl a=>⟨λe=>by rw[a];exact n 1 e rfl,λe=>by rw[a];exact n 2 e rfl,λe=>?_⟩,λhb=>?_⟩
 ·subst e;have d:(dI ty&&ty.kind !=2)=true:=c
  grind
 ·grind
 have:gN op=2:=by simp only[cO,qBm,beq_iff_eq]at hb;rcases hb with rfl|rfl|rfl|rfl<;>rfl
 obtain⟨x,y,e⟩:=dh k (n 2 this rfl)
 grind
inductive TR where
 |ok (t:Ty)
 |er (e:Int) (p:List Int)
inductive KR where
 |ok (l:List Ty)
 |er (e:Int) (p:List Int)
def rT(e:Env)(c:List Decl)(s:Str):Option Ty:=match c.find? λd=>d.name==s with|some d=>some d.ty|none=>look e s
def Ai(o:Option Ty):TR:=match o with|some t=>cond (dI t) (.ok t) (.er 5 [])|none=>.er 7 []
def knows env t:=(dK t).all (dx env)
def oU(b)nm(ty)(s:List Decl):=cond b ((aN ty).map λe=>⟨nm,e⟩::s) (some s)
mutual
def dN(env:Env):List Decl→Tm→TR
 |sc,.mk op nm _ ty ks=>
  cond (op==20) (match rT env sc nm with|some t=>.ok t|none=>.er 6 [])
   (cond (op==29&&!(knows env ty)) (.er 6 [])
    (match dA env sc (cO op) nm 0 ks with
     | .er e p=>.er e p
     | .ok l=>Ai (cond (op==29) (some (aj ty)) (gH op l))))
def dA(env:Env):List Decl→Bool→Str→Int→List Tm→KR
 |_,_,_,_,[]=>.ok []
 |sc,b,nm,i,t::ts=>match dN env sc t with
  | .er e p=>.er e (i::p)
  | .ok ty=>match oU b nm ty sc with
   |none=>.er 7 []
   |some sc'=>match dA env sc' false nm (i+1) ts with
    | .er e p=>.er e p
    | .ok l=>.ok (ty::l)
end
def GoodS(s:List Decl):=∀d∈s,Good d.ty
theorem as2{t}(h:dI t=true)(b:yE 2 t=false):Good t:=by
 rcases abj h with rfl|h
 ·cases b
 exact h
theorem azi{n}(h:aW n=true){s t}(a:look n s=some t):Good t:=by
 rw[BX h]at a;rcases qAn.1 a with a|a
 ·obtain⟨c,j,a⟩:=qBp.1 a;rcases qAh.1 a with a|a
  ·cases a;exact .set (.car _)
  obtain⟨e,_,b⟩:=qAA.1 a;cases b;exact .car _
 obtain⟨d,f,b⟩:=qAA.1 a;cases b;obtain⟨_,g,i,_⟩:=Vx h f;exact as2 g i
theorem awn{env:Env}(h:aW env=true){sc:List Decl}(hs:GoodS sc){s:Str}{t:Ty}(ht:rT env sc s=some t):Good t:=by
 unfold rT at ht;cases hf:sc.find? (fun d=>d.name==s)with
 |some d=>rw[hf]at ht;cases ht;exact hs d (qEl hf)
 |none=>rw[hf]at ht;exact azi h ht
theorem NV{o}{t}(h:Ai o=.ok t):o=some t/\dI t=true:=by
 cases o with|none=>cases h|some u=>
  simp only[Ai]at h
  grind
theorem at6{o}{e}{p}(h:Ai o=.er e p):e≠0/\p=[]:=by
 cases o with|none=>cases h;exact⟨by decide,rfl⟩|some u=>
  simp only[Ai]at h
  grind
theorem MZ{b}{nm}{ty}{f s}(t:Top ty)(hs:GoodS f)(h:oU b nm ty f=some s):GoodS s:=by
 unfold oU at h;cases b with|false=>cases h;exact hs|true=>
  cases a:aN ty with|none=>rw[a]at h;cases h|some e=>
   rw[a]at h;cases h;intro d c;rcases qAh.1 c with rfl|c
   ·exact(eO t a).1
   exact hs d c
theorem qU{n}(h:aW n=true){t}{s}(hs:GoodS s){ty}(a:dN n s t=.ok ty):Top ty:=by
 obtain⟨o,f,m,u,g⟩:=t;simp only[dN]at a;cases b:(o==20)with
 |true=>
  rw[b]at a;cases d:rT n s f with|none=>rw[d]at a;cases a|some t=>rw[d]at a;cases a;exact .inr (awn h hs d)
 |false=>
  rw[b]at a;cases c:(o==29&&!(knows n u))with|true=>rw[c]at a;cases a|false=>
   rw[c]at a;cases k:dA n s (cO o) f 0 g with|er e p=>rw[k]at a;cases a|ok l=>rw[k]at a;exact abj (NV a).2
theorem akr{n}(h:aW n=true):∀s c b nm i l,GoodS c->dA n c b nm i s=.ok l->l.length=s.length/\(∀t∈l,Top t)/\(b=true->s≠[]->(aN (l.headD aR)).isSome=true)
 |[],c,b,nm,i,l,_,k=>by simp only[dA]at k;cases k;exact⟨rfl,λt d=>(by cases d),λ_ h=>absurd rfl h⟩
 |t::s,c,b,nm,i,l,j,k=>by
  simp only[dA]at k;cases d:dN n c t with
  |er e p=>rw[d]at k;cases k|ok y=>
   rw[d]at k;simp only at k;have o:=qU h j d;cases a:oU b nm y c with
   |none=>rw[a]at k;cases k|some f=>
    rw[a]at k;simp only at k;cases r:dA n f false nm (i+1) s with|er e p=>rw[r]at k;cases k|ok m=>
     rw[r]at k;cases k;obtain⟨q,v,_⟩:=akr h s f false nm (i+1) m (MZ o j a) r;refine⟨by simp[q],λu g=>?_,λhbt _=>?_⟩
     ·rcases qAh.1 g with rfl|g
      ·exact o
      exact v u g
     subst hbt;show(aN y).isSome=true;unfold oU at a;cases w:aN y with|none=>rw[w]at a;cases a|some e=>rfl
mutual
theorem IQ{env:Env}:∀(t:Tm) (sc:List Decl) (e:Int) (p:List Int),dN env sc t=.er e p→e≠0
 | .mk op nm m u ks,sc,e,p,h=>by
  simp only[dN]at h;cases h20:(op==20)with
  |true=>
   rw[h20]at h;simp only[cond_true]at h;cases hl:rT env sc nm with
   |none=>rw[hl]at h;cases h;decide
   |some t=>rw[hl]at h;cases h
  |false=>
   rw[h20]at h;simp only[cond_false]at h;cases h29:(op==29&&!(knows env u))with
   |true=>rw[h29]at h;cases h;decide
   |false=>
    rw[h29]at h;simp only[cond_false]at h;cases hk:dA env sc (cO op) nm 0 ks with
    |er e' p'=>rw[hk]at h;cases h;exact auk ks sc _ nm 0 _ _ hk
    |ok l=>rw[hk]at h;exact(at6 h).1
theorem auk{env:Env}:∀(ts:List Tm) (sc:List Decl) (b:Bool) (nm:Str) (i:Int) (e:Int) (p:List Int),dA env sc b nm i ts=.er e p→e≠0
 |[],sc,b,nm,i,e,p,h=>by simp only[dA]at h;cases h
 |t::ts,sc,b,nm,i,e,p,h=>by
  simp only[dA]at h;cases ht:dN env sc t with
  |er e' p'=>rw[ht]at h;cases h;exact IQ t sc _ _ ht
  |ok ty=>
   rw[ht]at h;simp only at h;cases hb:oU b nm ty sc with
   |none=>rw[hb]at h;cases h;decide
   |some sc'=>
    rw[hb]at h;simp only at h;cases hr:dA env sc' false nm (i+1) ts with
    |er e' p'=>rw[hr]at h;cases h;exact auk ts sc' false nm _ _ _ hr
    |ok l'=>rw[hr]at h;cases h
end
mutual
theorem ZV{env:Env}:∀{t:Tm} {d:Int} (_:Wf d t) (sc:List Decl) (e:Int) (p:List Int),dN env sc t=.er e p→(p.length:Int)+d≤64
 | .mk op nm m u ks,d,hw,sc,e,p,h=>by
  obtain⟨_,hd,_,hkw⟩:=hw.node;simp only[dN]at h;cases h20:(op==20)with
  |true=>
   rw[h20]at h;simp only[cond_true]at h;cases hl:rT env sc nm with
   |none=>rw[hl]at h;cases h;simpa using hd
   |some t=>rw[hl]at h;cases h
  |false=>
   rw[h20]at h;simp only[cond_false]at h;cases h29:(op==29&&!(knows env u))with
   |true=>rw[h29]at h;cases h;simpa using hd
   |false=>
    rw[h29]at h;simp only[cond_false]at h;cases hk:dA env sc (cO op) nm 0 ks with
    |er e' p'=>rw[hk]at h;cases h;exact alR ks d hd hkw sc _ nm 0 _ _ hk
    |ok l=>rw[hk]at h;rw[(at6 h).2];simpa using hd
theorem alR{env:Env}:∀(ts:List Tm) (d:Int) (_:d≤64) (_:∀t∈ts,Wf (d+1) t) (sc:List Decl) (b:Bool) (nm:Str) (i:Int) (e:Int) (p:List Int),dA env sc b nm i ts=.er e p→(p.length:Int)+d≤64
 |[],d,_,_,sc,b,nm,i,e,p,h=>by simp only[dA]at h;cases h
 |t::ts,d,hd,hw,sc,b,nm,i,e,p,h=>by
  simp only[dA]at h;cases ht:dN env sc t with
  |er e' p'=>
   rw[ht]at h;cases h;have:=ZV (hw t (qBD ..)) sc _ _ ht;simp only[qAo,qCW,qCX];omega
  |ok ty=>
   rw[ht]at h;simp only at h;cases hb:oU b nm ty sc with
   |none=>rw[hb]at h;cases h;simpa using hd
   |some sc'=>
    rw[hb]at h;simp only at h;cases hr:dA env sc' false nm (i+1) ts with
    |er e' p'=>rw[hr]at h;cases h;exact alR ts d hd (fun u hu=>hw u (qAl _ hu)) sc' false nm _ _ _ hr
    |ok l'=>rw[hr]at h;cases h
end
inductive RR(β:Type) where
 |ok (v:β)
 |er (e:Int)
abbrev VR:=RR Val
abbrev UM:=RR (List Val)
def RR.thn{β a:Type}(r:RR β)(f:β->RR a):=match r with| .ok v=>f v| .er e=>.er e
def eY:List VR->UM|[]=>.ok []| .er e::_=>.er e| .ok v::r=>match eY r with| .er e=>.er e| .ok l=>.ok (v::l)
def v0:Val:=.mk 0 0 [] []
def R6(n:Int):Val:=.mk 1 n [] []
def bO(b:Bool):Val:=cond b (.mk 2 1 [] []) (.mk 2 0 [] [])
def dD(a b:Val):Val:=.mk 4 0 [] [a,b]
def mkSet(l:List Val):Val:=.mk 5 0 [] l
def OX l:=mkSet (sortV l)
def bL(p:Val):=p.kids.headD v0
def dP(p:Val):=(p.kids.drop 1).headD v0
def oP a b:=bK a b==0
def bf(l:List Val)x:=l.any λy=>oP y x
def avZ n:=decide (1000000000<n) ||decide (n< -1000000000)
def xL(n:Int):VR:=cond (avZ n) (.er 11) (.ok (R6 n))
def pG(l:List Val):VR:=cond (decide (256<((sortV l).length:Int))) (.er 11) (.ok (OX l))
def nQ(l:List Val):=sortV (l.map bL)
def qH(l:List Val):=sortV (l.map dP)
def ints(a:Int):Nat->List Val|0=>[]|n+1=>R6 a::ints (a+1) n
def vJ(l m:List Val):=l.length==(m.length:Int)
def Ab(op:Int)a b l:=
 l.all (λp=>bf a (bL p)&&bf b (dP p))&&
 cond (op==41) true (cond (op==42) (vJ (nQ l) l) (cond (op==43) (vJ (nQ l) l&&vJ (nQ l) a)
  (cond (op==44) (vJ (nQ l) l&&(vJ (nQ l) a&&vJ (qH l) l)) (vJ (nQ l) l&&(vJ (nQ l) a&&(vJ (qH l) l&&vJ (qH l) b))))))
def vM(l:List Val):=l.foldl (λout x=>out++out.map λr=>r++[x]) [[]]
def zi(op m n:Int):=cond (op==45&&m !=n) true (decide (44<=op)&&decide (n<m))
def ajs(op n i:Int):=cond (op==41) (2^n.toNat) (cond (op==42) (n+1) (cond (op==44 ||op==45) (n - i) n))
def wK(op n:Int):Nat->Int->Int->Bool|0,_,_=>false|k+1,i,c=>cond (op==41&&decide (8<n)) true (cond (ajs op n i==0) false (cond (decide (256<c*ajs op n i)) true (wK op n k (i+1) (c*ajs op n i))))
def lW(op:Int)(a b:List Val):List Val->List Val->List Val
 |[],l=>cond (Ab op a b l) [OX l] []|x::s,l=>cond (op==41) ((vM b).flatMap λim=>lW op a b s (l++im.map (dD x)))
  (cond (op==42) (lW op a b s l) []++b.flatMap λv=>cond (decide (44<=op)&&bf (qH l) v) [] (lW op a b s (l++[dD x v])))
def JQ(op:Int)(a b:List Val):UM:=
 cond (zi op a.length b.length) (.ok []) (cond (wK op b.length a.length 0 1) (.er 11) (.ok (lW op a b a [])))
def Hr(op:Int)(a b:Val):=
 cond (op==30) (cond (decide (256<=b.n - a.n)) (.er 11) (.ok (ints a.n (b.n+1 - a.n).toNat))) <|
 cond (op==31) (.ok (a.kids++b.kids)) <|
 cond (op==32) (.ok (a.kids.filter (bf b.kids))) <|
 cond (op==33) (.ok (a.kids.filter λx=>!bf b.kids x)) <|
 cond (op==34) (cond (decide (256<(a.kids.length:Int)*b.kids.length)) (.er 11) (.ok (a.kids.flatMap λx=>b.kids.map (dD x)))) <|
 cond (op==35) (.ok (a.kids.filter (λp=>!bf (nQ b.kids) (bL p))++b.kids)) <|
 cond (op==36) (.ok (a.kids.flatMap λp=>b.kids.flatMap λq=>cond (oP (dP p) (bL q)) [dD (bL p) (dP q)] [])) <|
 cond (op==37) (.ok (b.kids.filter λp=>bf a.kids (bL p))) <|
 cond (op==38) (.ok (b.kids.filter λp=>!bf a.kids (bL p))) <|
 cond (op==39) (.ok (a.kids.filter λp=>bf b.kids (dP p))) <|
 cond (op==40) (.ok (a.kids.filter λp=>!bf b.kids (dP p))) <|
 cond (op==46) (cond (decide (8<(a.kids.length:Int))) (.er 11) (.ok ((vM a.kids).map mkSet))) <|
 cond (op==50) (.ok (nQ a.kids)) <|
 cond (op==51) (.ok (qH a.kids)) <|
 cond (op==52) (.ok (a.kids.map λp=>dD (dP p) (bL p))) <|
 cond (op==53) (.ok (qH (a.kids.filter λp=>bf b.kids (bL p)))) <|
 JQ op a.kids b.kids
def aqi(op a b:Int):=
 cond (op==21) (xL (-a)) <|
 cond (op==22) (xL (a+b)) <|
 cond (op==23) (xL (a - b)) <|
 cond (op==24) (xL (a*b)) <|
 cond (op==25) (cond (b==0) (.er 10) (xL (Int.tdiv a b))) <|
 cond (decide (a<0) ||decide (b<1)) (.er 10) (xL (Int.tmod a b))
def ajA(a b:Val):VR:=match a.kids.filter λp=>oP (bL p) b with|[p]=>.ok (dP p)|_=>.er 10
def Ea op a b:=
 cond (op==3) (.ok (bO (a.n==0))) <|
 cond (op==7) (.ok (bO (a.n==b.n))) <|
 cond (op==10) (.ok (bO (oP a b))) <|
 cond (op==11) (.ok (bO (!oP a b))) <|
 cond (op==12) (.ok (bO (decide (a.n<b.n)))) <|
 cond (op==13) (.ok (bO (decide (a.n<=b.n)))) <|
 cond (op==14) (.ok (bO (decide (b.n<a.n)))) <|
 cond (op==15) (.ok (bO (decide (b.n<=a.n)))) <|
 cond (op==27) (.ok (dD a b)) <|
 cond (op==54) (ajA a b) <|
 cond (decide (op<=26)) (aqi op a.n b.n) <|
 cond (op==47) (xL a.kids.length) <|
 cond (op==48) (match a.kids with|[]=>.er 10|x::_=>.ok x) <|
 cond (op==49) (match a.kids.getLast? with|none=>.er 10|some x=>.ok x) <|
 (Hr op a b).thn pG
def Aa(op:Int):=decide (41<=op)&&decide (op<=46)
def qy(op)(l:List Val)x:=
 cond (Aa op) (cond (op==46) (x.kids.all (bf (l.headD v0).kids)) (Ab op (l.headD v0).kids ((l.drop 1).headD v0).kids x.kids)) (bf (l.headD v0).kids x)
def Ry(op:Int)(xs ys:List Val):=
 cond (op==8) (.ok (bO (ys.all λy=>y.n==1))) <|
 cond (op==9) (.ok (bO (ys.any λy=>y.n==1))) <|
 pG ((xs.zip ys).flatMap λp=>cond (op==56) [dD p.1 p.2] (cond (p.2.n==1) [p.1] []))
abbrev Sem:=List Bound->VR
structure Kd where
 op:Int
 f:Sem
 gs:List Sem
def kd0:Kd:=⟨0,λ_=>.er 0,[]⟩
def Ec(k:Kd)bs:=cond (Aa k.op) (eY (k.gs.map λg=>g bs)) (eY [k.f bs])
def W9(op:Int)(k:Kd)(b:List Bound)(x:Val):VR:=(Ec k b).thn λl=>.ok (bO (cond (op==18) (x.kids.all (qy k.op l)) (qy k.op l x==(op==16))))
def jo(f:Sem)nm(bs)(xs:List Val):=eY (xs.map λx=>f (⟨nm,x⟩::bs))
def gW op l:=cond (op==28) (pG l) (Ea op (l.headD v0) ((l.drop 1).headD v0))
def agJ(g:Str->Val)(a:List Bound)(s:Str):Val:=match a.find? λb=>b.name==s with|some b=>b.v|none=>g s
def Z0(g:Str->Val)o(nm:Str)(m:Int)(a:List Kd)(b:List Bound):=
 let c:=a.headD kd0
 let d:=(a.drop 1).headD kd0
 cond (o==1 ||o==2) (.ok (bO (o==1))) <|
 cond (o==19) (xL m) <|
 cond (o==20) (.ok (agJ g b nm)) <|
 cond (o==29) (.ok (mkSet [])) <|
 cond (o==4 ||(o==5 ||o==6)) ((c.f b).thn λp=>cond (o==4&&!(p.n==1)) (.ok (bO false)) (cond ((o==5&&p.n==1) ||(o==6&&!(p.n==1))) (.ok (bO true)) (d.f b))) <|
 cond (cO o) ((c.f b).thn λs=>(jo d.f nm b s.kids).thn λys=>Ry o s.kids ys) <|
 cond (o==16 ||(o==17 ||o==18)) ((c.f b).thn (W9 o d b)) <|
 (eY (a.map λk=>k.f b)).thn (gW o)
mutual
def aF(g:Str→Val):Tm→Sem
 | .mk op nm m _ ks=>Z0 g op nm m (aea g ks)
def aea(g:Str→Val):List Tm→List Kd
 |[]=>[]
 | .mk op nm m _ ks::ts=>⟨op,Z0 g op nm m (aea g ks),aqB g ks⟩::aea g ts
def aqB(g:Str→Val):List Tm→List Sem
 |[]=>[]
 | .mk op nm m _ ks::ts=>Z0 g op nm m (aea g ks)::aqB g ts
end
def uH(g:Str->Val)(t:Tm):Kd:=⟨t.op,aF g t,t.kids.map (aF g)⟩
theorem at7 g:∀t:List Tm,aqB g t=t.map (aF g)|[]=>by rw[aqB,qCT]| .mk o n m y k::t=>by rw[aqB,qAz,aF,at7 g t]
theorem auj g:∀t:List Tm,aea g t=t.map (uH g)|[]=>by rw[aea,qCT]| .mk o n m y k::t=>by rw[aea,qAz,uH,aF,auj g t,at7];rfl
theorem l8 g op nm m ty ks:aF g (.mk op nm m ty ks)=Z0 g op nm m (ks.map (uH g)):=by rw[aF,auj]
theorem OU n (q:Val->Option Val) x1 k s:Cm n q x1 (k+1) s=Az n q x1 (Cm n q x1 k) s:=rfl
mutual
def rG:Val→Prop
 | .mk _ _ _ ks=>ks.length*56≤140737488355328∧GY ks
def GY:List Val→Prop
 |[]=>True
 |v::vs=>rG v∧GY vs
end
theorem ain:∀{vs:List Val},GY vs->∀v∈vs,rG v
 |[],_,_,h=>by cases h|v::vs,h,u,a=>by
  simp only[GY]at h;rcases qAh.1 a with rfl|a
  ·exact h.1
  exact ain h.2 u a
theorem rG.kids{v}(h:rG v):v.kids.length*56<=140737488355328/\∀u∈v.kids,rG u:=by cases v;exact⟨h.1,ain h.2⟩
theorem iJ{l ys:List Val}(h:(l.length+ys.length)*56<=140737488355328):app 56 l ys=some (l++ys):=by
 unfold app
 grind
theorem LK{α} x (l:List α):idx (x::l) 0=some x:=by simp[idx]
theorem ayC{α:Type}:∀r x (s:List α),(r++x::s).set r.length x=r++x::s|[],_,_=>rfl|p::r,x,s=>by simp
theorem ac8 l:∀s p,l=p++s->(∀a∈s,Ev (λn=>rZ n a) a)->∃N,∀n,N<=n->∀k,s.length+1<=k->Cm n (rZ n) l k ((p.length:Int),p++s)=some (.nx (p++s))
 |[],p,h,_=>by refine⟨0,λn _ k b=>?_⟩;obtain⟨j,rfl⟩:∃j,k=j+1:=⟨k - 1,by simp at b;omega⟩;rw[OU];unfold Az;rw[decide_eq_false (by rw[h];simp)];rfl
 |a::s,p,h,H=>by
  obtain⟨f,c⟩:=H a (by simp);obtain⟨g,d⟩:=ac8 l s (p++[a]) (by simp[h]) (λx i=>H x (by simp[i]));refine⟨f+g,λn m k b=>?_⟩;obtain⟨j,rfl⟩:∃j,k=j+1:=⟨k - 1,by simp at b;omega⟩;have c:rZ n a=_:=c n (by omega);have d:=d n (by omega) j (by simp at b;omega);rw[OU];unfold Az;rw[decide_eq_true (by rw[h];simp;omega)];simp only[cond_true,gV,qAa];rw[c];simp only[qAa];have e:upd (p++a::s) (p.length:Int) a=p++a::s:=by unfold upd;rw[qBS,ayC]
  rw[e,show(p.length:Int)+1=((p++[a]).length:Int) by simp];simpa using d
theorem ZM v (f:rG v):Ev (λn=>rZ n v) v:=by
 induction v using Val.ind with|h k n s b i=>obtain⟨c,d⟩:=f.kids;simp only[Val.kids]at c d;obtain⟨N,h⟩:=ac8 b b [] rfl (λa e=>i a e (d a e));refine Ev.succ ⟨N+b.length+1,λm g=>?_⟩;have:=h m (by omega) m (by omega);show Fb m _ (.mk k n s b)=_;unfold Fb AY wQ;simp only[Val.kids];rw[iJ (by simpa using c)];simp only[qAa,qAs,qAC]at this|-;rw[show((0:Nat):Int)=0 from rfl]at this;rw[this];rfl
theorem aD1{α β:Type}(l:List α)(f:Nat->α->Option β)(g:α->β)(h:∀x∈l,Ev (λn=>f n x) (g x)):∃N,∀n,N<=n->∀x∈l,f n x=some (g x):=by
 induction l with|nil=>exact⟨0,λ_ _ x b=>by cases b⟩|cons a l i=>
  obtain⟨N,c⟩:=h a (by simp);obtain⟨M,d⟩:=i λx b=>h x (by simp[b]);refine⟨N+M,λn e x b=>?_⟩;rcases qAh.1 b with rfl|b
  ·exact c n (by omega)
  exact d n (by omega) x b
theorem OO{α σ S τ ρ} l (B:Nat->(S->Option (LR τ ρ))->S->Option (LR τ ρ))(b:Int->σ->S) st fin (I:List α->σ->Prop)
  (m:∀n e s,B n e (b (l.length:Int) s)=some (.nx (fin s)))
  (hs:∀p x u s,l=p++x::u->I (x::u) s->(∃N,∀n,N<=n->∀e,B n e (b (p.length:Int) s)=match st x s with| .nx s'=>e (b ((p.length:Int)+1) s')| .rt r=>some (.rt r))/\∀s',st x s=.nx s'->I u s')
  {s0} (h0:I l s0):Ev (λn=>aH (B n) n (b 0 s0)) (gD st fin l s0):=by
 have y:∀(u p:List α) (s:σ),l=p++u->I u s->∃N,∀n,N<=n->∀k,u.length+1<=k->aH (B n) k (b (p.length:Int) s)=some (gD st fin u s):=by
  intro u
  induction u with|nil=>intro p s d _;refine⟨0,λn _ k a=>?_⟩;obtain⟨j,rfl⟩:∃j,k=j+1:=⟨k - 1,by simp at a;omega⟩;rw[show(p.length:Int)=(l.length:Int) by rw[d];simp];exact m n _ s|cons x u o=>
   intro p s d q;obtain⟨⟨N,g⟩,t⟩:=hs p x u s d q;cases c:st x s with|rt r=>refine⟨N,λn f k a=>?_⟩;obtain⟨j,rfl⟩:∃j,k=j+1:=⟨k - 1,by simp at a;omega⟩;have:=g n f (aH (B n) j);rw[c]at this;show B n (aH (B n) j) _=_;rw[this];simp only[gD,c]|nx s'=>obtain⟨M,v⟩:=o (p++[x]) s' (by simp[d]) (t s' c);refine⟨N+M,λn f k a=>?_⟩;obtain⟨j,rfl⟩:∃j,k=j+1:=⟨k - 1,by simp at a;omega⟩;have:=g n (by omega) (aH (B n) j);rw[c]at this;show B n (aH (B n) j) _=_;rw[this];have i:=v n (by omega) j (by simp at a;omega);rw[show((p++[x]).length:Int)=(p.length:Int)+1 by simp]at i;simp only[gD,c];exact i
 obtain⟨N,h⟩:=y l [] s0 rfl h0;exact⟨N+l.length+1,λn f=>h n (by omega) n (by omega)⟩
theorem aqZ{α β τ ρ} g (f:List β->τ):∀(l:List α) s,gD (ρ:=ρ) (λx s=>.nx (s++g x)) f l s=.nx (f (s++l.flatMap g))|[],s=>by simp[gD]|x::l,s=>by simp only[gD];rw[aqZ g f l];simp
theorem aB5{α β S τ ρ:Type} l (B:Nat->(S->Option (LR τ ρ))->S->Option (LR τ ρ))(p:Int->List β->S)(f:List β->τ)(g:α->List β) M
  (h:∀n r s,B n r (p (l.length:Int) s)=some (.nx (f s)))
  (hs:∀pre x suf s,l=pre++x::suf->s.length+(g x).length<=M->∃N,∀n,N<=n->∀r,B n r (p (pre.length:Int) s)=r (p ((pre.length:Int)+1) (s++g x)))
  {s0} (h0:s0.length+(l.flatMap g).length<=M):Ev (λn=>aH (B n) n (p 0 s0)) (LR.nx (f (s0++l.flatMap g))):=by rw[<-aqZ (ρ:=ρ) g f l s0];refine OO l B p _ f (λsuf s=>s.length+(suf.flatMap g).length<=M) h (λpre x suf s a i=>?_) h0;simp only[qBh,qAf]at i;refine⟨hs pre x suf s a (by omega),λs' e=>?_⟩;cases e;simp only[qAf];omega
theorem wW{α S ρ:Type}(l:List α)(B:Nat->(S->Option (LR (List Val) ρ))->S->Option (LR (List Val) ρ))(p:Int->List Val->S)(g:α->List Val)(M:Nat)(m:M*56<=140737488355328)
  (e:∀n r s,B n r (p (l.length:Int) s)=some (.nx s))
  (hs:∀pre x u s,l=pre++x::u->(s.length+(g x).length)*56<=140737488355328->∃N,∀n,N<=n->∀r,B n r (p (pre.length:Int) s)=r (p ((pre.length:Int)+1) (s++g x)))
  {s0:List Val} (h0:s0.length+(l.flatMap g).length<=M):Ev (λn=>aH (B n) n (p 0 s0)) (LR.nx (s0++l.flatMap g)):=
 aB5 l B p (λs=>s) g M e (λpre x u s a h=>hs pre x u s a (by omega)) h0
def avU(l)(P:Nat->Val->Option Bool)n(r:(List Val×Int)->Option (LR (List Val) (List Val)))(s:List Val×Int):=
 cond (decide (s.2<(l.length:Int))) ((((idx l s.2).bind λ(x:Val)=>((P n x).bind λ(a:Bool)=>(cond a ((app 56 s.1 ([x])).bind λ(b:List Val)=>some b) (some s.1))))).bind λ(c)=>r (c,(s.2+1))) (some (.nx s.1))
theorem Zv{α:Type} p (l:List α):l.flatMap (λx=>cond (p x) [x] [])=l.filter p:=by
 induction l with|nil=>rfl|cons x l i=>rw[qBh,i,List.filter_cons];cases p x<;>rfl
theorem flatMap_one{α β:Type}(f:α->β)(l:List α):l.flatMap (λx=>[f x])=l.map f:=by
 induction l with|nil=>rfl|cons x l i=>rw[qBh,i];rfl
theorem at_end{α:Type}(l:List α):decide (l.length<(l.length:Int))=false:=decide_eq_false (Int.lt_irrefl _)
theorem dW{α l p s}{x:α}(h:l=p++x::s):decide ((p.length)<(l.length:Int))=true/\idx l p.length=some x:=by subst h;exact⟨decide_eq_true (by simp;omega),gV _ _ _⟩
theorem CQ l P p (a:∀x∈l,Ev (λn=>P n x) (p x))(j:l.length<=1000000):
  Ev (λn=>(aH (avU l P n) n (([]:List Val),(0:Int))).bind (LR.el (λs2=>some s2) (λr=>some r))) (l.filter p):=by
 have h:=wW l (avU l P) (λi s=>(s,i)) (λx=>cond (p x) [x] []) 1000000 (by omega) (λn c s=>by unfold avU;rw[at_end];rfl) (λpre x u s e b=>by
  obtain⟨N,h⟩:=a x (by simp[e]);refine⟨N,λn f c=>?_⟩;have h:P n x=_:=h n f;unfold avU;rw[(dW e).1];simp only[cond_true,(dW e).2,qAa,h];cases g:p x;·simp
  rw[g]at b;simp only[cond_true,qAo,qAC]at b|-;rw[iJ (by simpa using b)];rfl) (s0:=[]) (by rw[Zv];have:=qCO p l;simp only[qAC];omega)
 rw[Zv,qAs]at h;exact Ev.bind h (Ev.ret _)
theorem kG l x:bf l x=true↔x∈l:=by
 unfold bf oP;rw[qDw];constructor;·rintro⟨y,a,h⟩;rw[beq_iff_eq,gu]at h;exact h▸a
 exact λh=>⟨x,h,by rw[beq_iff_eq,gu]⟩
theorem ajK{l:List Val}(h:l.Pairwise kR){i j}(a:i<j)(b:j<l.length):kR (l[i]'(by omega)) l[j]:=List.pairwise_iff_getElem.1 h i j (by omega) b a
theorem aBt l x (hs:l.Pairwise kR)(G:l.length<=1000000) n (D:∀y∈l,dz n y x=some (bK y x)):∀(d lo hi:Nat),lo<=hi->hi<=l.length->hi - lo<=d->
  (∀i (h:i<l.length),i<lo->bK l[i] x<0)->(∀i (h:i<l.length),hi<=i->¬bK l[i] x<0)->
  ∃r:Nat,r<=l.length/\(∀i (h:i<l.length),i<r->bK l[i] x<0)/\(∀i (h:i<l.length),r<=i->¬bK l[i] x<0)/\∀k,d+1<=k->tq n l x k ((lo:Int),(hi:Int))=some (.nx (r:Int)):=by
 intro d
 induction d with
 |zero=>
  intro lo hi z p E q s;have:lo=hi:=by omega
  subst this;refine⟨lo,p,q,s,λk u=>?_⟩;obtain⟨j,rfl⟩:∃j,k=j+1:=⟨k - 1,by omega⟩;show dM n l x _ _=_;unfold dM;rw[decide_eq_false (by simp)];rfl
 |succ d v=>
  intro lo hi z p E q s;by_cases t:lo<hi
  ·have w:(lo+hi)/2<l.length:=by omega
   have A:=D l[(lo+hi)/2] (qAN w);have a:idx l (((lo+hi)/2:Nat):Int)=some l[(lo+hi)/2]:=by unfold idx;rw[if_pos (by omega),qBS,qAc w]
   have B:IntKind.wrap .u64 (IntKind.wrap .i64 ((lo:Int)+(hi:Int)))=((lo+hi:Nat):Int):=by
    rw[wrap64 (by omega) (by omega)];simp only[IntKind.wrap]
    first
     |omega
     |(rw[Int.emod_eq_of_lt (by omega) (by simp;omega)];omega)
     |(simp[IntKind.bits];omega)
   have C:apa .u64 (((lo+hi:Nat)):Int) 1=some (((lo+hi)/2:Nat):Int):=by unfold apa;rw[if_pos ⟨by omega,by decide⟩];congr 1;rw[qDj _ (by decide)];rfl
   by_cases c:bK l[(lo+hi)/2] x<0
   ·obtain⟨r,b,e,f,g⟩:=v ((lo+hi)/2+1) hi (by omega) p (by omega) (λi h F=>by
     rcases qDz i ((lo+hi)/2)with m|m
     ·exact zW _ _ _ (ajK hs m w) c
     have:i=(lo+hi)/2:=by omega
     subst this;exact c) s
    refine⟨r,b,e,f,λk u=>?_⟩;obtain⟨j,rfl⟩:∃j,k=j+1:=⟨k - 1,by omega⟩;show dM n l x _ _=_;unfold dM;rw[decide_eq_true (by simpa using t)];simp only[cond_true,B,C,qAa];rw[wrap64 (by omega) (by omega)];simp only[a,qAa,A];rw[decide_eq_true c,cond_true,wrap64 (by omega) (by omega)];exact g j (by omega)
   obtain⟨r,b,e,f,g⟩:=v lo ((lo+hi)/2) (by omega) (by omega) (by omega) q (λi h F o=>by
    rcases qDz ((lo+hi)/2) i with m|m
    ·exact c (zW _ _ _ (ajK hs m h) o)
    have:i=(lo+hi)/2:=by omega
    subst this;exact c o)
   refine⟨r,b,e,f,λk u=>?_⟩;obtain⟨j,rfl⟩:∃j,k=j+1:=⟨k - 1,by omega⟩;show dM n l x _ _=_;unfold dM;rw[decide_eq_true (by simpa using t)];simp only[cond_true,B,C,qAa];rw[wrap64 (by omega) (by omega)];simp only[a,qAa,A];rw[decide_eq_false c,cond_false];exact g j (by omega)
  obtain⟨r,b,e,f,g⟩:=v lo hi z p (by omega) q s;exact⟨r,b,e,f,λk u=>g k (by omega)⟩
theorem Hl{l}(hs:l.Pairwise kR)(g:l.length<=1000000) x:Ev (λn=>fC n l x) (bf l x):=by
 obtain⟨N,d⟩:=aD1 l (λn y=>dz n y x) (λy=>bK y x) λy _=>yO y x;refine⟨N+l.length+1,λn p=>?_⟩;obtain⟨r,q,e,k,o⟩:=aBt l x hs g n (d n (by omega)) l.length 0 l.length (by omega) (by omega) (by omega) (λi _ h=>absurd h (by omega)) (λi h s=>absurd h (by omega));have f:=o n (by omega);show fC n l x=_;unfold fC og;rw[show((0:Nat):Int)=0 from rfl]at f;rw[f];simp only[qAa,LR.el];by_cases a:r<l.length
 ·have c:idx l (r:Int)=some l[r]:=by unfold idx;rw[if_pos (by omega),qBS,qAc a]
  rw[decide_eq_true (by omega)];simp only[cond_true,c,qAa,d n (by omega) l[r] (qAN a)];congr 1;rw[qBY,kG,beq_iff_eq,gu];constructor;·rintro rfl;exact qAN a
  intro m;obtain⟨j,b,rfl⟩:=qBz m;rcases Nat.lt_trichotomy j r with h|h|h
  ·exact absurd (e j b h) (by have:=(gu l[j] l[j]).2 rfl;omega)
  ·subst h;rfl
  exact absurd (ajK hs h b) (k r a (qAd _))
 rw[decide_eq_false (by omega)];simp only[cond_false,qAa];congr 1;symm;rw[Bool.eq_false_iff];intro m;rw[kG]at m;obtain⟨j,b,rfl⟩:=qBz m;exact absurd (e j b (by omega)) (by have:=(gu l[j] l[j]).2 rfl;omega)
def iX(l:List Val):=l.Pairwise kR/\l.length<=256
def mY(l:List Val):=∀p∈l,∃a b,p.kids=[a,b]
theorem iX.has{l}(h:iX l) x:Ev (λn=>(fC n l x).bind λx1=>some x1) (bf l x):=Ev.bind (Hl h.1 (by have:=h.2;omega) x) (Ev.ret _)
theorem mY.fst{l}(h:mY l){p}(c:p∈l):idx p.kids 0=some (bL p):=by obtain⟨a,b,e⟩:=h p c;unfold bL;rw[e];rfl
theorem mY.snd{l}(h:mY l){p}(c:p∈l):idx p.kids 1=some (dP p):=by obtain⟨a,b,e⟩:=h p c;unfold dP;rw[e];rfl
theorem y8{l}(h:iX l):l.length<=1000000:=by have:=h.2;omega
theorem abw{l}(h:mY l)(b:l.length<=1000000):Ev (λn=>zU n l) (nQ l):=by
 have a:=wW l (λn=>AO n l) (λi s=>(s,i)) (λx=>[bL x]) 1000000 (by omega) (λn r s=>by unfold AO;rw[at_end];rfl) (λpre x u s e c=>⟨0,λn d r=>by unfold AO;rw[(dW e).1];simp only[cond_true,(dW e).2,qAa,h.fst (show x∈l by simp[e])];rw[iJ (by simpa using c)];rfl⟩) (s0:=[]) (by rw[flatMap_one];simpa using b)
 rw[flatMap_one,qAs]at a;unfold zU mkS;rw[if_pos ⟨by omega,by omega,by omega⟩];simp only[qAa];refine Ev.bind a ⟨0,λn _=>?_⟩;simp only[LR.el,jG];rw[iJ (by simp;omega)];rfl
theorem NH{l}(h:mY l)(b:l.length<=1000000):Ev (λn=>pX n l) (qH l):=by
 have a:=wW l (λn=>y9 n l) (λi s=>(s,i)) (λx=>[dP x]) 1000000 (by omega) (λn r s=>by unfold y9;rw[at_end];rfl) (λpre x u s e c=>⟨0,λn d r=>by unfold y9;rw[(dW e).1];simp only[cond_true,(dW e).2,qAa,h.snd (show x∈l by simp[e])];rw[iJ (by simpa using c)];rfl⟩) (s0:=[]) (by rw[flatMap_one];simpa using b)
 rw[flatMap_one,qAs]at a;unfold pX mkS;rw[if_pos ⟨by omega,by omega,by omega⟩];simp only[qAa];refine Ev.bind a ⟨0,λn _=>?_⟩;simp only[LR.el,jG];rw[iJ (by simp;omega)];rfl
theorem adg op {a b l}(g:a.Pairwise kR)(j:b.Pairwise kR)(k:a.length<=1000000)(lb:b.length<=1000000)(h:mY l)(f:l.length<=1000000):Ev (λn=>uP n op a b l) (Ab op a b l):=by
 have c:=OO l (λn=>wM n a b l) (λi _=>i) (λx (_:Unit)=>cond (!(bf a (bL x)&&bf b (dP x))) (.rt false) (.nx ())) (λ_=>()) (λ_ _=>True) (λn r s=>by unfold wM;rw[at_end];rfl) (λpre x u s e _=>⟨by obtain⟨N,c⟩:=Hl g k (bL x);obtain⟨M,d⟩:=Hl j lb (dP x);refine⟨N+M,λn o r=>?_⟩;have c:fC n a (bL x)=_:=c n (by omega);have d:fC n b (dP x)=_:=d n (by omega);unfold wM;rw[(dW e).1];simp only[cond_true,(dW e).2,qAa,h.fst (show x∈l by simp[e]),h.snd (show x∈l by simp[e]),c,d];cases bf a (bL x)<;>cases bf b (dP x)<;>rfl,λ_ _=>trivial⟩) (s0:=()) trivial
 rw[R4]at c;have e:l.all (λp=>bf a (bL p)&&bf b (dP p))=!(l.any λx=>!(bf a (bL x)&&bf b (dP x))):=by rw[<-List.not_all_eq_any_not,qCq]
 unfold uP Ab;rw[e];refine Ev.bind c ?_;cases l.any λx=>!(bf a (bL x)&&bf b (dP x))with|true=>exact Ev.ret _|false=>
  refine Ev.bind (abw h f) (Ev.bind (NH h f) ⟨0,λn _=>?_⟩);unfold vJ;simp only[qBd,qAw];cases op==41<;>cases op==42<;>cases op==43<;>cases op==44<;>simp only[cond_true,cond_false]<;>
   cases((nQ l).length:Int)==(l.length:Int)<;>cases((nQ l).length:Int)==(a.length:Int)<;>cases((qH l).length:Int)==(l.length:Int)<;>rfl
theorem Wj{α σ τ ρ} f (i:σ->τ):∀(l:List α) s,gD (ρ:=ρ) (λx s=>.nx (f s x)) i l s=.nx (i (l.foldl f s))|[],s=>rfl|x::l,s=>by simp only[gD];rw[Wj f i l];rfl
theorem aCh{l ys:List (List Val)}(h:(l.length+ys.length)*24<=140737488355328):app 24 l ys=some (l++ys):=by
 unfold app
 grind
theorem agR{l}(f:l.length<=8):Ev (λn=>GK n l) (vM l):=by
 have g:=OO l (λn=>yD n l) (λi s=>(s,i)) (λx o=>.nx (o++o.map λr=>r++[x])) (λs=>s) (λsuf o=>o.length*2^suf.length<=256/\∀r∈o,r.length+suf.length<=8) (λn c s=>by unfold yD;rw[at_end];rfl) (λpre x suf o e b=>by
  simp at b;have m:1<=2^suf.length:=qDi;have t:o.length*2<=256:=by
   have:o.length*2*1<=o.length*2*2^suf.length:=Nat.mul_le_mul_left _ m
   grind
  refine⟨?_,λs' v=>?_⟩
  ·obtain⟨N,h⟩:=aB5 (ρ:=List (List Val)) o (λn=>yM n x o) (λi s=>(s,i)) (λs=>s) (λr=>[r++[x]]) 600 (λn c s=>by unfold yM;rw[at_end];rfl) (λpre2 r u s d z=>⟨0,λn j c=>by have a:=b.2 r (by simp[d]);unfold yM ji;rw[(dW d).1];simp only[(dW d).2,qAa];rw[iJ (by simp;omega)];simp;rw[iJ (by simp;omega)];simp;rw[aCh (by simp;omega)];rfl⟩) (s0:=o) (by rw[flatMap_one];simp;omega)
   rw[flatMap_one]at h;refine⟨N,λn j c=>?_⟩;have h:Qy n x o n (o,0)=_:=h n j;unfold yD xA;rw[(dW e).1];simp only[(dW e).2];rw[aCh (by simp;omega)]
   grind
  cases v;constructor
  ·simp
   grind
  ·intro r a;rcases qAn.1 a with a|a
   ·grind
   obtain⟨q,w,rfl⟩:=qAA.1 a;have:=b.2 q w;simp;omega) (s0:=[[]]) ⟨by have:2^l.length<=2^8:=qCZ (by omega) f;simpa using this,by simpa using f⟩
 rw[Wj (ρ:=List (List Val)) (λ(o:List (List Val)) x=>o++o.map λr=>r++[x])]at g;exact Ev.bind g (Ev.ret _)
theorem ae3:∀(l:List Val) (out:List (List Val)),(l.foldl (λout x=>out++out.map λr=>r++[x]) out).length=out.length*2^l.length
 |[],out=>by simp|x::l,out=>by
  rw[qBg,ae3 l]
  grind
theorem ajI n op x y:LV n op x y=some (zi op x y):=by
 unfold LV zi
 grind
theorem auc{n}(h:n<=8):1<=2^n/\2^n<=256:=⟨qDi,qCZ (n:=2) (by omega) h⟩
theorem azc f {op}(t:op=41∨op=42∨op=43∨op=44∨op=45){m n}(F:n<=256)(G:m<=256)(d:44<=op->m<=n):∀(k i c:Nat),i+k=m->1<=c->c<=256->∀j,k+1<=j->
  ∃r,Gj f op m n j ((c:Int),(i:Int))=some r/\(match r with| .nx _=>false| .rt b=>b)=wK op n k i c:=by
 intro k
 induction k with
 |zero=>
  intro i c w _ _ j x;obtain⟨j,rfl⟩:∃q,j=q+1:=⟨j - 1,by omega⟩;refine⟨.nx (),?_,rfl⟩;show sQ f op m n _ _=_;unfold sQ
  grind
 |succ k y=>
  intro i c w z A j x;obtain⟨j,rfl⟩:∃q,j=q+1:=⟨j - 1,by omega⟩;show ∃r,sQ f op m n (Gj f op m n j) _=some r/\_;unfold sQ;rw[decide_eq_true (by simp;omega)];simp only[cond_true];by_cases h:(op==41&&decide (8<(n:Int)))=true
  ·refine⟨.rt true,?_,?_⟩
   ·simp only[qAb,beq_iff_eq,decide_eq_true_eq]at h;rw[h.1,decide_eq_true h.2];rfl
   unfold wK;rw[h];rfl
  rw[qCI]at h;obtain⟨a,g,l,o⟩:∃a:Nat,ajs op n i=(a:Int)/\a<=257/\((cond (op==41) (cond (decide (8<(n:Int))) (some (.rt true)) ((Zi 1 n).bind λ(B:Int)=>some (.nx B))) (cond (op==42) (some (.nx (IntKind.wrap .i64 ((n:Int)+1)))) (((cond (op==44) (some (op==44)) (some (op==45))):Option Bool).bind λ(C:Bool)=>(cond C (some (.nx (IntKind.wrap .i64 ((n:Int) - (i:Int))))) (some (.nx (n:Int))))))):Option (LR Int Bool))=some (.nx (a:Int)):=by
   rcases t with rfl|rfl|rfl|rfl|rfl
   ·have u:decide (8<(n:Int))=false:=h;have p:n<=8:=by have:=of_decide_eq_false u;omega
    have H:=auc p;have e:Zi 1 (n:Int)=some ((2^n:Nat):Int):=by
     unfold Zi;rw[if_pos ⟨by omega,by omega⟩,qBS,Int.one_mul,wrap64];·congr 1
     ·have:((2^n:Nat):Int)=(2:Int)^n:=by norm_cast
      omega
     have:((2^n:Nat):Int)=(2:Int)^n:=by norm_cast
     omega
    refine⟨2^n,?_,by omega,?_⟩;·show(2:Int)^(n:Int).toNat=_;rw[qBS];norm_cast
    rw[u,e];rfl
   ·exact⟨n+1,by show(n:Int)+1=_;omega,by omega,by show some (LR.nx (IntKind.wrap .i64 ((n:Int)+1)))=_;rw[wrap64 (by omega) (by omega)];rfl⟩
   ·exact⟨n,rfl,by omega,rfl⟩
   ·have:=d (by omega);exact⟨n - i,by show(n:Int) - i=_;omega,by omega,by show some (LR.nx (IntKind.wrap .i64 ((n:Int) - i)))=_;rw[wrap64 (by omega) (by omega)];congr 2;omega⟩
   have:=d (by omega);exact⟨n - i,by show(n:Int) - i=_;omega,by omega,by show some (LR.nx (IntKind.wrap .i64 ((n:Int) - i)))=_;rw[wrap64 (by omega) (by omega)];congr 2;omega⟩
  rw[o];unfold wK;rw[h,g];simp only[qAa,cond_false,LR.el];by_cases v:a=0;·subst v;exact⟨.rt false,rfl,rfl⟩
  rw[show((a:Int)==0)=false by simpa using v];have D:(c:Int)*(a:Int)=((c*a:Nat):Int):=by norm_cast
  have E:c*a<=256*257:=qDc A l;have s:1<=c*a:=Nat.mul_pos z (by omega);rw[D,wrap64 (by omega) (by omega)];simp only[cond_false];by_cases I:256<c*a
  ·rw[decide_eq_true (by omega)];refine⟨.rt true,?_,rfl⟩;rcases t with rfl|rfl|rfl|rfl|rfl
   ·rfl
   ·rfl
   ·have:(a:Int)=n:=g.symm;simp only[cond_true];rw[decide_eq_true (by omega)];rfl
   ·rfl
   rfl
  rw[decide_eq_false (by omega)];simp only[cond_false,qAa];exact y (i+1) (c*a) (by omega) s (by omega) j (by omega)
theorem awt{op}(o:op=41∨op=42∨op=43∨op=44∨op=45){m n:Nat}(b:n<=256)(c:m<=256):Ev (λf=>BZ f op m n) (!zi op m n&&wK op n m 0 1):=by
 refine⟨m+1,λf d=>?_⟩;show BZ f op m n=_;unfold BZ;rw[ajI];cases a:zi op m n with|true=>rfl|false=>
  obtain⟨r,e,g⟩:=azc f o b c (λh=>by
   unfold zi at a;cases q:(op==45&&(m:Int)!=n)with|true=>rw[q]at a;cases a|false=>rw[q,decide_eq_true h]at a;have:=of_decide_eq_false (show decide ((n:Int)<m)=false by simpa using a);omega) m 0 1 (by omega) (by omega) (by omega) f d
  grind
theorem vO{α β:Type}(g:α->List β) m:∀(l:List α),(∀x∈l,(g x).length<=m)->(l.flatMap g).length<=l.length*m|[],_=>by simp|x::l,h=>by have b:=h x (by simp);have c:=vO g m l λy a=>h y (by simp[a]);rw[qBh,qAf,qAo,Nat.succ_mul];omega
def Bu(op:Int)n:=cond (op==41) (2^n) (cond (op==42) (n+1) n)
theorem ad5 op a b:∀xs l,(lW op a b xs l).length<=Bu op b.length^xs.length
 |[],l=>by unfold lW;cases Ab op a b l<;>simp
 |x::xs,l=>by
  have i:=ad5 op a b xs;unfold lW;rw[qAo,Nat.pow_succ,qBB];by_cases h:op=41
  ·subst h;have:(vM b).length=2^b.length:=by unfold vM;rw[ae3];simp
   show((vM b).flatMap _).length<=2^b.length*_;rw[<-this];exact vO _ _ _ λim _=>i _
  rw[show(op==41)=false by simpa using h,cond_false,qAf];have d:=vO (λv=>cond (decide (44<=op)&&bf (qH l) v) [] (lW op a b xs (l++[dD x v]))) (Bu op b.length^xs.length) b λv _=>by grind
  by_cases c:op=42
  ·subst c;have f:=i l;have e:Bu 42 b.length=b.length+1:=rfl;rw[e]at d f|-
   grind
  have e:Bu op b.length=b.length:=by unfold Bu;rw[show(op==41)=false by simpa using h,show(op==42)=false by simpa using c];rfl
  grind
theorem aeT{op}(o:op=41∨op=42∨op=43){n}:∀k i (c:Nat),Bu op n≠0->c<=256->wK op n k i c=false->c*Bu op n^k<=256
 |0,i,c,_,a,_=>by simpa using a|k+1,i,c,d,a,h=>by
  have f:ajs op n i=(Bu op n:Int):=by
   rcases o with rfl|rfl|rfl
   ·show(2:Int)^(n:Int).toNat=((2^n:Nat):Int)
    grind
   ·rfl
   rfl
  unfold wK at h;rw[f,show((Bu op n:Int)==0)=false by simpa using d]at h;cases e:(op==41&&decide (8<(n:Int)))with
  |true=>rw[e]at h;cases h|false=>
   rw[e]at h;rw[show(c:Int)*(Bu op n:Int)=((c*Bu op n:Nat):Int) by norm_cast]at h;cases b:decide (256<((c*Bu op n:Nat):Int))with|true=>rw[b]at h;cases h|false=>
    rw[b]at h;have:=of_decide_eq_false b;have:=aeT o k (i+1) (c*Bu op n) d (by omega) h
    grind
def fct:Nat->Nat|0=>1|k+1=>(k+1)*fct k
theorem aoO{op}(o:op=44∨op=45){n}:∀(k i c:Nat),i+k<=n->c<=256->wK op n k i c=false->c*fct k<=256
 |0,i,c,_,a,_=>by simpa[fct]using a|k+1,i,c,g,a,h=>by
  have f:ajs op n i=((n - i:Nat):Int):=by
   rcases o with rfl|rfl
   ·show(n:Int) - i=_;omega
   show(n:Int) - i=_;omega
  unfold wK at h;rw[f,show(((n - i:Nat):Int)==0)=false by simp;omega]at h;have e:(op==41&&decide (8<(n:Int)))=false:=by rcases o with rfl|rfl<;>rfl
  rw[e]at h;rw[show(c:Int)*((n - i:Nat):Int)=((c*(n - i):Nat):Int) by norm_cast]at h;cases b:decide (256<((c*(n - i):Nat):Int))with|true=>rw[b]at h;cases h|false=>rw[b]at h;have:=of_decide_eq_false b;have d:=aoO o k (i+1) (c*(n - i)) (by omega) (by omega) h;have:c*((k+1)*fct k)<=c*((n - i)*fct k):=Nat.mul_le_mul_left _ (qAQ _ (by omega));rw[Nat.mul_assoc]at d;exact qAu this d
theorem atj:∀k,6<=k->720<=fct k
 |0,h=>by omega|k+1,h=>by
  unfold fct;by_cases a:6<=k
  ·have:=atj k a
   grind
  have:k=5:=by omega
  subst this
  decide
theorem ap3{op}(o:op=41∨op=42∨op=43∨op=44∨op=45){a b:List Val}(i:a.length<=256)(d:b.length<=256)(n:zi op a.length b.length=false)(m:wK op b.length a.length 0 1=false):Bu op b.length^a.length<=2199023255552:=by
 by_cases l:op=41∨op=42∨op=43
 ·by_cases c:Bu op b.length=0
  ·rw[c];cases a.length with|zero=>decide|succ k=>rw[Nat.zero_pow (by omega)];omega
  have:=aeT l a.length 0 1 c (by omega) m;omega
 have o:op=44∨op=45:=by omega
 have f:a.length<=b.length:=by
  unfold zi at n
  grind
 have j:=aoO o a.length 0 1 (by omega) (by omega) m;have g:a.length<=5:=by
  rcases qDz a.length 6 with h|h
  ·omega
  have:=atj _ h;omega
 have e:Bu op b.length=b.length:=by rcases o with rfl|rfl<;>rfl
 rw[e]
 calc b.length^a.length<=256^a.length:=Nat.pow_le_pow_left d _
  _<=256^5:=qCZ (by omega) g
  _<=_:=by decide
theorem aC4{op}(ho:op=41∨op=42∨op=43∨op=44∨op=45){a b}(H:iX a)(V:iX b)(h8:op=41->a≠[]->b.length<=8):∀(xs c l out:List Val),a=c++xs->mY l->l.length+8*xs.length<=100000->(out.length+(lW op a b xs l).length)*56<=140737488355328->
  Ev (λn=>gI n c.length l a op b out) (out++lW op a b xs l):=by
 intro xs
 induction xs with
 |nil=>
  intro c l out f d I g;refine Ev.succ ?_;show Ev (λn=>mE n _ (c.length:Int) l a op b out) _;unfold mE;rw[show((c.length:Int)==(a.length:Int))=true by rw[f];simp];simp only[cond_true];simp only[qAC]at I;unfold lW at g|-;refine Ev.bind (a:=out++cond (Ab op a b l) [OX l] []) ?_ (Ev.ret _);refine Ev.bind (adg op H.1 V.1 (y8 H) (y8 V) d (by omega)) ?_;cases hB:Ab op a b l with
  |false=>simp only[cond_false,qAt];exact Ev.ret _|true=>rw[hB]at g;simp only[cond_true,qAo,qAC]at g|-;refine⟨0,λn _=>?_⟩;unfold jG;rw[iJ (by simp;omega),iJ (by simpa using g)];simp only[qAa,qAs,gV];congr 1;unfold upd;rw[qBS,List.set_append_right _ _ (qAd _),Nat.sub_self];rfl
 |cons x xs J=>
  intro c l out f d I g;have W:idx a (c.length:Int)=some x:=(dW f).2;have K:((c.length:Int)==(a.length:Int))=false:=by rw[f];simp;omega
  have hpl:c.length<=256:=by have:=H.2;rw[f]at this;simp at this;omega
  have L:IntKind.wrap .i64 ((c.length:Int)+1)=((c++[x]).length:Int):=by rw[wrap64 (by omega) (by omega)];simp
  have A:a=(c++[x])++xs:=by simp[f]
  simp only[qAo]at I;have t:∀(m:List Val) (X:List Val),mY m->mY (m++X.map (dD x)):=by
   intro m X hm p f;rcases qAn.1 f with f|f
   ·exact hm p f
   obtain⟨v,_,rfl⟩:=qAA.1 f;exact⟨x,v,rfl⟩
  refine Ev.succ ?_;show Ev (λn=>mE n (gI n) (c.length:Int) l a op b out) _;unfold mE;rw[K];simp only[cond_false];unfold lW at g|-;by_cases C:op=41
  ·subst C;have M:=h8 rfl (by rw[f];simp);simp only[show((41:Int)==41)=true from rfl,cond_true]at g|-;refine Ev.bind (agR M) ?_;have D:∀im∈vM b,im.length<=8:=by
    have O:∀(q:List Val) (B:List (List Val)) (k:Nat),(∀r∈B,r.length<=k)->∀r∈q.foldl (λout x=>out++out.map λr=>r++[x]) B,r.length<=k+q.length:=by
     intro q
     induction q with|nil=>intro B k h r d;simpa using h r d|cons y q P=>
      intro B k h r d;rw[qBg]at d;have:=P (B++B.map λr=>r++[y]) (k+1) (λr d=>by
       rcases qAn.1 d with d|d
       ·have:=h r d;omega
       obtain⟨z,hz,rfl⟩:=qAA.1 d;have:=h z hz;simp;omega) r d
      simp only[qAo];omega
    intro im E;have:=O b [[]] 0 (by simp) im E;omega
   have u:=wW (ρ:=List Val) (vM b) (λn=>rH n (gI n) (c.length:Int) l a 41 b (vM b)) (λi s=>(i,s)) (λim=>lW 41 a b xs (l++im.map (dD x))) _ g (λn j s=>by unfold rH;rw[at_end];rfl) (λp2 im s2 s e o=>by
    have E:=D im (by simp[e]);obtain⟨N,u⟩:=J (c++[x]) (l++im.map (dD x)) s A (t l im d) (by simp;omega) o;obtain⟨N2,F⟩:=wW (ρ:=List Val) im (λn=>rV n (gI n) (c.length:Int) a im) (λi s=>(s,i)) (λv=>[dD x v]) 200000 (by omega) (λn j s=>by unfold rV;rw[at_end];rfl) (λp3 v s3 s Y o=>⟨0,λn G j=>by unfold rV;rw[(dW Y).1];simp only[cond_true,(dW Y).2,qAa,W];rw[iJ (by simpa using o)];rfl⟩) (s0:=l) (by rw[flatMap_one];simp;omega)
    rw[flatMap_one]at F;refine⟨N+N2,λn G j=>?_⟩;have F:IJ n (gI n) (c.length:Int) a im n (l,0)=_:=F n (by omega);have u:gI n _ _ _ _ _ _=_:=u n (by omega);unfold rH ji;rw[(dW e).1];simp only[cond_true,(dW e).2,qAa];rw[iJ (by simp;omega)];simp only[qAa,qAs,F,LR.el];rw[L,u];rfl) (s0:=out) (qAd _)
   exact Ev.bind u (Ev.ret _)
  rw[show(op==41)=false by simpa using C]at g|-;simp only[cond_false]at g|-;refine Ev.bind (a:=out++cond (op==42) (lW op a b xs l) []) ?_ ?_
  ·cases Q:(op==42)with
   |false=>simp only[cond_false,qAt];exact Ev.ret _|true=>rw[Q]at g;simp only[cond_true,qAf]at g|-;rw[L];exact Ev.bind (J (c++[x]) l out A d (by omega) (by omega)) (Ev.ret _)
  rw[<-qAm];have R:((out++cond (op==42) (lW op a b xs l) []).length+(b.flatMap λv=>cond (decide (44<=op)&&bf (qH l) v) [] (lW op a b xs (l++[dD x v]))).length)*56<=140737488355328:=by simp only[qAf]at g|-;omega
  have u:=wW (ρ:=List Val) b (λn=>nM n (gI n) (c.length:Int) l a op b) (λi s=>(i,s)) (λv=>cond (decide (44<=op)&&bf (qH l) v) [] (lW op a b xs (l++[dD x v]))) _ R (λn j s=>by unfold nM;rw[at_end];rfl) (λp2 v s2 s e o=>by
   obtain⟨Z,w⟩:Ev (λn=>(((cond (decide (44<=op)) ((pX n l).bind λ(S:List Val)=>((fC n S v).bind λ(T:Bool)=>some T)) (some false)):Option Bool))) (decide (44<=op)&&bf (qH l) v):=by
    cases decide (44<=op)with
    |false=>exact Ev.ret _|true=>simp only[cond_true,qAw];refine Ev.bind (NH d (by omega)) (Ev.bind (Hl (iR _) ?_ v) (Ev.ret _));have:=lK (l.map dP);simp only[qAg]at this;show(sortV _).length<=_;omega
   cases U:(decide (44<=op)&&bf (qH l) v)with
   |true=>refine⟨Z,λn G j=>?_⟩;have w:=w n G;simp only[U]at w;unfold nM;rw[(dW e).1];simp only[cond_true,(dW e).2,qAa,w,qAt]
   |false=>rw[U]at o;obtain⟨N,u⟩:=J (c++[x]) (l++[dD x v]) s A (t l [v] d) (by simp;omega) o;refine⟨N+Z,λn G j=>?_⟩;have w:=w n (by omega);simp only[U]at w;have u:gI n _ _ _ _ _ _=_:=u n (by omega);unfold nM ji;rw[(dW e).1];simp only[cond_true,cond_false,(dW e).2,qAa,w];rw[iJ (by simp;omega)];simp only[qAa,qAs,W];rw[iJ (by simp;omega)];simp only[qAa];rw[L,show(Val.mk 4 0 [] [x,v])=dD x v from rfl,u];rfl) (s0:=out++cond (op==42) (lW op a b xs l) []) (qAd _)
  exact Ev.bind u (Ev.ret _)
def pzl(r:UM):PZ (List Val) Unit:=match r with| .ok l=>.ok l| .er e=>.er e ()
theorem aqT{op}(o:op=41∨op=42∨op=43∨op=44∨op=45){a b}(h:iX a)(c:iX b):Ev (λn=>Cu n op a b) (pzl (JQ op a b)):=by
 unfold Cu JQ;refine Ev.bind (awt o c.2 h.2) ?_;cases d:zi op a.length b.length with|true=>refine⟨0,λn _=>?_⟩;simp only[ajI,d];rfl|false=>
  cases m:wK op b.length a.length 0 1 with|true=>exact Ev.ret _|false=>
   have k:=ap3 o h.2 c.2 d m;have l:=ad5 op a b a [];have i:=aC4 o h c (λe f=>by
    subst e;cases a with|nil=>exact absurd rfl f|cons x a=>
     unfold wK at m;cases g:decide (8<(b.length:Int))with|true=>rw[g]at m;cases m|false=>have:=of_decide_eq_false g;omega) a [] [] [] rfl (λp j=>by cases j) (by have:=h.2;simp;omega) (by simp;omega)
   simp only[ajI,d,qAa];exact Ev.bind i (Ev.ret _)
def pz(r:VR):PZ Val Unit:=match r with| .ok v=>.ok v| .er e=>.er e ()
theorem Ev.pz{f r}(h:Ev f (pz r)):Ev (λn=>(f n).bind (PZ.el (λx=>some (.ok x)) (λe _=>some (.er e ())))) (Abs.pz r):=by refine Ev.bind h ?_;cases r<;>exact Ev.ret _
theorem Ev.cnd{α β:Type}(P:β->α){b f g x y}(h:b=true->Ev f (P x))(h2:b=false->Ev g (P y)):Ev (λn=>cond b (f n) (g n)) (P (cond b x y)):=by
 cases b;·grind
 grind
theorem int_eq n x:iP n x=some (pz (xL x)):=by unfold iP xL avZ;cases decide (1000000000<x)<;>cases decide (x< -1000000000)<;>rfl
theorem KT x:Ev (λn=>iP n x) (pz (xL x)):=Ev.of λn=>int_eq n x
theorem Bv b:Ev (λn=>bD n b) (bO b):=by cases b<;>exact Ev.ret _
def Rt x:= -1000000000<=x/\x<=1000000000
theorem aIK{a b}(h:Rt a)(c:Rt b): -1000000000000000000<=a*b/\a*b<=1000000000000000000:=by
 have d:a.natAbs<=1000000000:=by have:=h.1;have:=h.2;omega
 have e:b.natAbs<=1000000000:=by have:=c.1;have:=c.2;omega
 have f:(a*b).natAbs<=1000000000*1000000000:=by rw[Int.natAbs_mul];exact qDc d e
 omega
theorem aAX{op a b}(c:Rt a)(d:Rt b):Ev (λn=>GR n op a b) (pz (aqi op a b)):=by
 have e:=c.1;have f:=c.2;have g:=d.1;have i:=d.2;refine Ev.cnd pz (λ_=>?_) λ_=>Ev.cnd pz (λ_=>?_) λ_=>Ev.cnd pz (λ_=>?_) λ_=>Ev.cnd pz (λ_=>?_) λ_=>Ev.cnd pz (λ_=>Ev.cnd pz (λ_=>Ev.ret _) λh=>?_) λ_=>?_
 ·rw[Int.zero_sub,wrap64 (by omega) (by omega)];exact Ev.pz (KT _)
 ·rw[wrap64 (by omega) (by omega)];exact Ev.pz (KT _)
 ·rw[wrap64 (by omega) (by omega)];exact Ev.pz (KT _)
 ·have:=aIK c d;rw[wrap64 (by omega) (by omega)];exact Ev.pz (KT _)
 ·have z:¬b=0:=by simpa using h
  have j:(Int.tdiv a b).natAbs<=1000000000:=by rw[Int.natAbs_tdiv];exact qAu (Nat.div_le_self a.natAbs b.natAbs) (by omega)
  refine Ev.bind (a:=Int.tdiv a b) (Ev.of λ_=>?_) (Ev.pz (KT _));unfold arH;rw[if_neg z,wrap64 (by omega) (by omega)]
 refine Ev.bind (a:=decide (a<0) ||decide (b<1)) ?_ (Ev.cnd pz (λ_=>Ev.ret _) λh=>?_);·cases decide (a<0)<;>exact Ev.ret _
 have z:¬b=0:=by rw[qBQ]at h;have:=of_decide_eq_false h.2;omega
 refine Ev.bind (a:=Int.tmod a b) (Ev.of λ_=>?_) (Ev.pz (KT _));unfold aeM
 grind
theorem ao9{l}(h:l.length*56<=140737488355328):Ev (λn=>yK n l) (pz (pG l)):=by unfold yK jG pG;rw[iJ (by simpa using h)];exact Ev.cnd pz (λ_=>Ev.ret _) λ_=>Ev.ret _
def aog(n:Nat):LR (List Val) (PZ Val Unit)->Option (PZ Val Unit):=LR.el (λs1=>(yK n s1).bind (PZ.el (λx1=>some (.ok x1)) (λe1 _=>some (.er e1 ())))) λr=>some r
def EvS(f:Nat->Option (LR (List Val) (PZ Val Unit)))(r:UM):=Ev (λn=>(f n).bind (aog n)) (pz (r.thn pG))
theorem EvS.cnd{b f g x y}(h:b=true->EvS f x)(h2:b=false->EvS g y):EvS (λn=>cond b (f n) (g n)) (cond b x y):=by
 cases b;·grind
 grind
theorem EvS.er:EvS (λ_=>some (.rt (.er 11 ()))) (.er 11):=Ev.ret _
theorem EvS.of{F l}(h:Ev F (.nx l))(a:l.length*56<=140737488355328):EvS F (.ok l):=by have k:Ev (λn=>aog n (.nx l)) (pz (pG l)):=Ev.pz (ao9 a);exact Ev.bind (g:=λx n=>aog n x) h k
theorem EvS.lp{f l}(h:Ev f (.nx l))(a:l.length<=1000000):EvS (λn=>(f n).bind (LR.el (λs=>some (.nx s)) (λr=>some (.rt r)))) (.ok l):=EvS.of (Ev.bind h (Ev.ret _)) (by omega)
theorem EvS.ok{f l}(h:Ev f l)(a:l.length<=1000000):EvS (λn=>(f n).bind λx=>some (.nx x)) (.ok l):=EvS.of (Ev.bind h (Ev.ret _)) (by omega)
theorem amu(a b:List Val)(h:a.length+b.length≤1000000):Ev (fun n=>oh n [a,b]) (a++b):=by
 refine⟨4,fun n hn=>?_⟩;obtain⟨j,rfl⟩:∃j,n=j+3:=⟨n - 3,by omega⟩;have h1:vY (j+3) [a,b] (j+3) (0,0)=some (.nx ((a.length:Int)+b.length)):=by
  show kN (j+3) [a,b] (kN (j+3) [a,b] (kN (j+3) [a,b] (vY (j+3) [a,b] j))) (0,0)=_;unfold kN;simp only[qAo,qAC,show decide ((0:Int)<((0+1+1:Nat):Int))=true from rfl,show idx [a,b] 0=some a from rfl,show idx [a,b] (0+1)=some b from rfl,qAa];rw[wrap64 (by omega) (by omega),decide_eq_false (by omega)];simp;rw[wrap64 (by omega) (by omega),decide_eq_false (by omega)]
  grind
 have h2:vR (j+3) [a,b] (j+3) ([],0)=some (.nx (a++b)):=by
  show kP (j+3) [a,b] (kP (j+3) [a,b] (kP (j+3) [a,b] (vR (j+3) [a,b] j))) ([],0)=_;unfold kP;simp only[show idx [a,b] 0=some a from rfl,show idx [a,b] (0+1)=some b from rfl,qAa];rw[iJ (by simp;omega)];simp;rw[iJ (by omega)];rfl
 unfold oh Dz
 grind
theorem ak8(f:Nat)(b:Val)(hb:Rt b.n):∀(k:Nat) (x:Int) (acc:List Val),Rt x→x+k=b.n+1→(acc.length+k)≤1000000→∀j,k+1≤j→Oq f b j (acc,x)=some (.nx (acc++ints x k))
 |0,x,acc,_,h,_,j,hj=>by
  obtain⟨j,rfl⟩:∃q,j=q+1:=⟨j - 1,by omega⟩;show lU f b _ _=_;unfold lU;rw[decide_eq_false (by simp;omega)];simp[ints]
 |k+1,x,acc,hx,h,hl,j,hj=>by
  obtain⟨j,rfl⟩:∃q,j=q+1:=⟨j - 1,by omega⟩;have x1:=hx.1;have x2:=hx.2;have b2:=hb.2;show lU f b (Oq f b j) _=_;unfold lU;rw[decide_eq_true (by simp;omega)];have hi:xL x=.ok (R6 x):=by
   unfold xL avZ
   grind
  simp only[int_eq,hi,qAa,pz,PZ.el];rw[iJ (by simp;omega)];simp;rw[wrap64 (by omega) (by omega)];cases k with
  |zero=>
   obtain⟨i,rfl⟩:∃q,j=q+1:=⟨j - 1,by omega⟩;show lU f b _ _=_;unfold lU;rw[decide_eq_false (by simp;omega)];rfl
  |succ k=>
   rw[ak8 f b hb (k+1) (x+1) (acc++[R6 x]) ⟨by omega,by omega⟩ (by omega) (by simp;omega) j (by omega)];simp[ints]
theorem aqQ:∀(k:Nat) (x:Int),(ints x k).length=k
 |0,_=>rfl
 |k+1,x=>by rw[ints,qAo,aqQ k]
theorem CB(p:Val→Bool){l:List Val}(h:iX l):(l.filter p).length≤256:=qAu (qCO p l) h.2
theorem mY.fil{l:List Val}(h:mY l)(p:Val→Bool):mY (l.filter p):=fun x hx=>h x (qAY.1 hx).1
theorem WS{β:Type}{a b:List Val}(g:Val→List β)(ha:iX a)(hg:∀x∈a,(g x).length≤256):(a.flatMap g).length≤65536:=by
 have:=vO g 256 a hg;have h2:=qAQ 256 ha.2;omega
theorem Ev.avP{f:Nat→Option Bool}{b:Bool}(h:Ev f b):Ev (fun n=>(f n).bind fun(x2:Bool)=>some (!x2)) (!b):=Ev.bind h (Ev.ret _)
theorem Ev.same{f:Nat→Option Bool}{b:Bool}(h:Ev f b):Ev (fun n=>(f n).bind fun(x2:Bool)=>some x2) b:=Ev.bind h (Ev.ret _)
theorem aCJ(a b:Val)(ha:iX a.kids)(hb:iX b.kids):Ev (fun n=>ZH n a b n (([]:List Val),0)) (.nx (a.kids.flatMap fun x=>b.kids.map (dD x))):=by
 have:=WS (b:=b.kids) (fun x=>b.kids.map (dD x)) ha (fun x _=>by simpa using hb.2);refine wW (ρ:=PZ Val Unit) a.kids (fun n=>ED n a b) (fun i s=>(s,i)) _ 1000000 (by omega) (fun n rec s=>by unfold ED;rw[at_end];rfl) (fun pre x suf s e hbd=>?_) (s0:=[]) (by simp only[qAC];omega);obtain⟨N,h⟩:=wW (ρ:=PZ Val Unit) b.kids (fun n=>EA n b x) (fun i s=>(s,i)) (fun y=>[dD x y]) _ hbd (fun n rec s=>by unfold EA;rw[at_end];rfl) (fun p2 y s2 s e2 hbd=>⟨0,fun n hn rec=>by
  unfold EA;rw[(dW e2).1];simp only[(dW e2).2,qAa];rw[iJ (by simpa using hbd)];rfl⟩) (s0:=s) (by rw[flatMap_one];exact qAd _)
 rw[flatMap_one]at h;refine⟨N,fun n hn rec=>?_⟩;have h:ZI n b x n (s,0)=_:=h n hn;unfold ED;rw[(dW e).1];simp only[cond_true,(dW e).2,qAa,h]
theorem aCr(a b:Val)(ha:iX a.kids)(hb:iX b.kids)(ra:mY a.kids)(rb:mY b.kids):Ev (fun n=>abb n a b n (([]:List Val),0)) (.nx (a.kids.flatMap fun p=>b.kids.flatMap fun q=>cond (oP (dP p) (bL q)) [dD (bL p) (dP q)] [])):=by
 have h1:∀p,(b.kids.flatMap fun q=>cond (oP (dP p) (bL q)) [dD (bL p) (dP q)] []).length≤256:=fun p=>by
  have:=vO (fun q=>cond (oP (dP p) (bL q)) [dD (bL p) (dP q)] []) 1 b.kids (fun q _=>by cases oP (dP p) (bL q)<;>simp);have:=hb.2;omega
 have:=WS (b:=b.kids) (fun p=>b.kids.flatMap fun q=>cond (oP (dP p) (bL q)) [dD (bL p) (dP q)] []) ha (fun x _=>h1 x);refine wW (ρ:=PZ Val Unit) a.kids (fun n=>EJ n a b) (fun i s=>(s,i)) _ 1000000 (by omega) (fun n rec s=>by unfold EJ;rw[at_end];rfl) (fun pre x suf s e hbd=>?_) (s0:=[]) (by simp only[qAC];omega);have hx:x∈a.kids:=by simp[e]
 obtain⟨N,h⟩:=wW (ρ:=PZ Val Unit) b.kids (fun n=>Ep n b x) (fun i s=>(s,i)) (fun q=>cond (oP (dP x) (bL q)) [dD (bL x) (dP q)] []) _ hbd (fun n rec s=>by unfold Ep;rw[at_end];rfl) (fun p2 y s2 s e2 hbd=>by
  have hy:y∈b.kids:=by simp[e2]
  obtain⟨N,h⟩:=yO (dP x) (bL y);refine⟨N,fun n hn rec=>?_⟩;have h:dz n (dP x) (bL y)=_:=h n hn;unfold Ep;rw[(dW e2).1];simp only[(dW e2).2,qAa,ra.fst hx,ra.snd hx,rb.fst hy,rb.snd hy,h];unfold oP at hbd⊢;cases hq:(bK (dP x) (bL y)==0)with
  |false=>simp
  |true=>
   rw[hq]at hbd;rw[iJ (by simpa using hbd)];rfl) (s0:=s) (qAd _)
 refine⟨N,fun n hn rec=>?_⟩;have h:ZJ n b x n (s,0)=_:=h n hn;unfold EJ;rw[(dW e).1];simp only[cond_true,(dW e).2,qAa,h]
theorem aCu(x:List (List Val))(hx:x.length≤1000000):Ev (fun n=>aaL n x n (([]:List Val),0)) (.nx (x.map mkSet)):=by
 have h:=wW (ρ:=PZ Val Unit) x (fun n=>EK n x) (fun i s=>(s,i)) (fun y=>[mkSet y]) 1000000 (by omega) (fun n rec s=>by unfold EK;rw[at_end];rfl) (fun p2 y s2 s e2 hbd=>⟨0,fun n hn rec=>by
  unfold EK;rw[(dW e2).1];simp only[(dW e2).2,qAa];rw[iJ (by simpa using hbd)];rfl⟩) (s0:=[]) (by rw[flatMap_one];simpa using hx)
 rwa[flatMap_one]at h
theorem aEr(a:Val)(ha:iX a.kids)(ra:mY a.kids):Ev (fun n=>aaS n a n (([]:List Val),0)) (.nx (a.kids.map fun p=>dD (dP p) (bL p))):=by
 have h:=wW (ρ:=PZ Val Unit) a.kids (fun n=>Ez n a) (fun i s=>(s,i)) (fun p=>[dD (dP p) (bL p)]) 1000000 (by omega) (fun n rec s=>by unfold Ez;rw[at_end];rfl) (fun p2 y s2 s e2 hbd=>⟨0,fun n hn rec=>by
  unfold Ez;rw[(dW e2).1];simp only[(dW e2).2,qAa,ra.fst (show y∈a.kids by simp[e2]),ra.snd (show y∈a.kids by simp[e2])];rw[iJ (by simpa using hbd)];rfl⟩) (s0:=[]) (by rw[flatMap_one];have:=ha.2;simp;omega)
 rwa[flatMap_one]at h
structure SetsOk(op:Int)(a b:Val):Prop where
 n:op=30→Rt a.n∧Rt b.n
 s:op≠30→iX a.kids∧iX b.kids
 a:(35≤op∧op≤36∨39≤op∧op≤40∨50≤op∧op≤54)→mY a.kids
 b:35≤op∧op≤38→mY b.kids
theorem aDT{op:Int}{a b:Val}(ho:30≤op∧op≤53∧¬(47≤op∧op≤49))(h:SetsOk op a b):Ev (fun n=>Rh n op a b) (pz ((Hr op a b).thn pG)):=by
 unfold Rh;show EvS (fun n=>_) (Hr op a b);unfold Hr;refine EvS.cnd (fun e=>?_) fun h30=>?_
 ·obtain⟨ha,hb⟩:=h.n (eq_of_beq e);have a1:=ha.1;have a2:=ha.2;have b1:=hb.1;have b2:=hb.2;rw[wrap64 (by omega) (by omega)];refine EvS.cnd (fun _=>EvS.er) fun hd=>?_;have hd:=of_decide_eq_false hd;refine EvS.lp ?_ (by rw[aqQ];omega);by_cases hle:a.n≤b.n
  ·exact⟨(b.n+1 - a.n).toNat+1,fun n hn=>ak8 n b hb (b.n+1 - a.n).toNat a.n [] ha (by omega) (by simp;omega) n hn⟩
  ·refine⟨1,fun n hn=>?_⟩;obtain⟨j,rfl⟩:∃q,n=q+1:=⟨n - 1,by omega⟩;show lU (j+1) b _ _=_;unfold lU;rw[decide_eq_false hle,show(b.n+1 - a.n).toNat=0 by omega];rfl
 have h30:op≠30:=by simpa using h30
 obtain⟨ha,hb⟩:=h.s h30;have la:=ha.2;have lb:=hb.2;refine EvS.cnd (fun e=>EvS.ok (amu _ _ (by omega)) (by simp;omega)) fun h31=>?_;refine EvS.cnd (fun e=>EvS.ok (CQ a.kids (fun n x=>wh n x b.kids) (bf b.kids) (fun x _=>hb.has x) (y8 ha)) (by have:=CB (bf b.kids) ha;omega)) fun h32=>?_;refine EvS.cnd (fun e=>EvS.ok (CQ a.kids (fun n x=>Sq n x b.kids) _ (fun x _=>Ev.avP (hb.has x)) (y8 ha)) (qAu (CB _ ha) (by omega))) fun h33=>?_;refine EvS.cnd (fun e=>?_) fun h34=>?_
 ·have hm:a.kids.length*b.kids.length≤256*256:=qDc la lb;rw[show(a.kids.length:Int)*(b.kids.length:Int)=((a.kids.length*b.kids.length:Nat):Int) by norm_cast,wrap64 (by omega) (by omega)];exact EvS.cnd (fun _=>EvS.er) fun _=>EvS.lp (aCJ a b ha hb) (qAu (WS (b:=b.kids) _ ha (fun x _=>by simpa using hb.2)) (by omega))
 refine EvS.cnd (fun e=>?_) fun Xv=>?_
 ·have e:=eq_of_beq e;have ra:=h.a (by omega);have hf:iX (nQ b.kids):=⟨iR _,by have:=lK (b.kids.map bL);unfold nQ;simp at this;omega⟩;refine EvS.of (Ev.bind (abw (h.b (by omega)) (y8 hb)) (Ev.bind (CQ a.kids (fun n x=>J7 n x (nQ b.kids)) (fun x=>!bf (nQ b.kids) (bL x)) (fun x hx=>?_) (y8 ha)) (Ev.bind (amu _ _ ?_) (Ev.ret _)))) ?_
  ·unfold J7;rw[ra.fst hx];exact Ev.avP (Hl hf.1 (y8 hf) _)
  ·have:=CB (fun x=>!bf (nQ b.kids) (bL x)) ha;omega
  ·have:=CB (fun x=>!bf (nQ b.kids) (bL x)) ha;rw[qAf];omega
 refine EvS.cnd (fun e=>?_) fun h36=>?_
 ·have e:=eq_of_beq e;refine EvS.lp (aCr a b ha hb (h.a (by omega)) (h.b (by omega))) (qAu (WS (b:=b.kids) _ ha (fun p _=>?_)) (by omega));have:=vO (fun q=>cond (oP (dP p) (bL q)) [dD (bL p) (dP q)] []) 1 b.kids (fun q _=>by cases oP (dP p) (bL q)<;>simp);omega
 refine EvS.cnd (fun e=>EvS.ok (CQ b.kids (fun n x=>Kw n x a.kids) _ (fun x hx=>?_) (y8 hb)) (qAu (CB _ hb) (by omega))) fun h37=>?_
 ·unfold Kw;rw[(h.b (by have:=eq_of_beq e;omega)).fst hx];exact Ev.same (ha.has _)
 refine EvS.cnd (fun e=>EvS.ok (CQ b.kids (fun n x=>Kt n x a.kids) _ (fun x hx=>?_) (y8 hb)) (qAu (CB _ hb) (by omega))) fun h38=>?_
 ·unfold Kt;rw[(h.b (by have:=eq_of_beq e;omega)).fst hx];exact Ev.avP (ha.has _)
 refine EvS.cnd (fun e=>EvS.ok (CQ a.kids (fun n x=>Kl n x b.kids) _ (fun x hx=>?_) (y8 ha)) (qAu (CB _ ha) (by omega))) fun h39=>?_
 ·unfold Kl;rw[(h.a (by have:=eq_of_beq e;omega)).snd hx];exact Ev.same (hb.has _)
 refine EvS.cnd (fun e=>EvS.ok (CQ a.kids (fun n x=>KC n x b.kids) _ (fun x hx=>?_) (y8 ha)) (qAu (CB _ ha) (by omega))) fun h40=>?_
 ·unfold KC;rw[(h.a (by have:=eq_of_beq e;omega)).snd hx];exact Ev.avP (hb.has _)
 refine EvS.cnd (fun e=>EvS.cnd (fun _=>EvS.er) fun h8=>?_) fun h46=>?_
 ·have h8:=of_decide_eq_false h8;have hl:(vM a.kids).length≤256:=by
   unfold vM;rw[ae3];have:=(auc (show a.kids.length≤8 by omega)).2;simpa using this
  exact EvS.of (Ev.bind (agR (by omega)) (Ev.bind (aCu _ (by omega)) (Ev.ret _))) (by simp only[qAg];omega)
 refine EvS.cnd (fun e=>EvS.ok (abw (h.a (by have:=eq_of_beq e;omega)) (y8 ha)) ?_) fun h50=>?_
 ·have:=lK (a.kids.map bL);unfold nQ;simp at this;omega
 refine EvS.cnd (fun e=>EvS.ok (NH (h.a (by have:=eq_of_beq e;omega)) (y8 ha)) ?_) fun h51=>?_
 ·have:=lK (a.kids.map dP);unfold qH;simp at this;omega
 refine EvS.cnd (fun e=>EvS.lp (aEr a ha (h.a (by have:=eq_of_beq e;omega))) (by simp;omega)) fun h52=>?_;refine EvS.cnd (fun e=>?_) fun h53=>?_
 ·have ra:=h.a (by have:=eq_of_beq e;omega);have hq:=CB (fun p=>bf b.kids (bL p)) ha;refine EvS.of (Ev.bind (CQ a.kids (fun n x=>Ki n x b.kids) (fun p=>bf b.kids (bL p)) (fun x hx=>?_) (y8 ha)) (Ev.bind (NH (ra.fil _) (by omega)) (Ev.ret _))) ?_
  ·unfold Ki;rw[ra.fst hx];exact Ev.same (hb.has _)
  ·have:=lK ((a.kids.filter (fun p=>bf b.kids (bL p))).map dP);unfold qH;simp only[qAg]at this;omega
 have hr:op=41∨op=42∨op=43∨op=44∨op=45:=by
  simp only[beq_eq_false_iff_ne,ne_eq]at *;omega
 have hr1:=aqT hr ha hb;have hlen:(JQ op a.kids b.kids)=.er 11∨∃l,JQ op a.kids b.kids=.ok l∧l.length≤2199023255552:=by
  unfold JQ;cases hN:zi op a.kids.length b.kids.length with
  |true=>exact .inr ⟨[],rfl,by simp⟩
  |false=>
   cases hM:wK op b.kids.length a.kids.length 0 1 with
   |true=>exact .inl rfl
   |false=>exact .inr ⟨_,rfl,qAu (ad5 op a.kids b.kids a.kids []) (ap3 hr la lb hN hM)⟩
 rcases hlen with e|⟨l,e,hl⟩
 ·rw[e]at hr1⊢;exact Ev.bind (g:=fun x n=>aog n x) (Ev.bind hr1 (Ev.ret _)) (Ev.ret _)
 ·rw[e]at hr1⊢;exact EvS.of (Ev.bind hr1 (Ev.ret _)) (by omega)
theorem fQ{op:Int}{a b:Val}(ho:op≤54∧op≠28∧op≠29)(hn:21≤op∧op≤26→Rt a.n∧Rt b.n)(hs:47≤op∧op≤49∨op=54→iX a.kids)(hr:op=54→mY a.kids)(hl:op≤20→op≤15)(h0:op≤20→op=3∨op=7∨10≤op)
  (h:30≤op∧op≤53∧¬(47≤op∧op≤49)→SetsOk op a b):Ev (fun n=>nE n op a b) (pz (Ea op a b)):=by
 have T:∀c:Bool,Ev (fun n=>(bD n c).bind fun(x1:Val)=>some (PZ.ok (ζ:=Unit) x1)) (pz (.ok (bO c))):=fun c=>Ev.bind (Bv c) (Ev.ret _);have C:∀d:Int→Bool,Ev (fun n=>(dz n a b).bind fun(x3:Int)=>((bD n (d x3)).bind fun(x4:Val)=>some (PZ.ok (ζ:=Unit) x4))) (pz (.ok (bO (d (bK a b))))):=fun d=>Ev.bind (yO a b) (T _);unfold nE Ea;refine Ev.cnd pz (fun _=>T _) fun e3=>Ev.cnd pz (fun _=>T _) fun e7=>Ev.cnd pz (fun _=>C (fun x=>x==0)) fun e10=>Ev.cnd pz (fun _=>C (fun x=>x !=0)) fun e11=>Ev.cnd pz (fun _=>T _) fun e12=>Ev.cnd pz (fun _=>T _) fun e13=>Ev.cnd pz (fun _=>T _) fun e14=>Ev.cnd pz (fun _=>T _) fun e15=>Ev.cnd pz (fun _=>Ev.ret _) fun e27=>Ev.cnd pz (fun e=>?_) fun e54=>Ev.cnd pz (fun e=>?_) fun e26=>Ev.cnd pz (fun _=>Ev.pz (KT _)) fun e47=>?_
 ·have e:=eq_of_beq e;have sa:=hs (.inr e);have ra:=hr e;have hf:=CQ a.kids (fun n x=>GJ n x b.kind b.n b.name b.kids) (fun p=>oP (bL p) b) (fun x hx=>by
   unfold GJ;rw[ra.fst hx];have eb:Val.mk b.kind b.n b.name b.kids=b:=by cases b;rfl
   rw[eb];simp only[qAa];exact Ev.bind (yO _ _) (Ev.ret _)) (y8 sa)
  refine Ev.bind hf ?_;unfold ajA;have rm:mY (a.kids.filter fun p=>oP (bL p) b):=ra.fil _
  match a.kids.filter (fun p=>oP (bL p) b),rm with
  |[],_=>exact Ev.ret _
  |[p],rm=>
   refine Ev.of fun n=>?_;simp only[show(([p].length:Int)!=1)=false from rfl,cond_false,LK,qAa,rm.snd (qBD ..)];rfl
  |p::q::r,_=>
   refine Ev.of fun n=>?_;simp only[show(((p::q::r).length:Int)!=1)=true by simp;omega,cond_true];rfl
 ·have h26:=of_decide_eq_true e;simp only[beq_eq_false_iff_ne,ne_eq]at *;obtain⟨ha,hb⟩:=hn (by omega);exact Ev.pz (aAX ha hb)
 ·by_cases hm:op=48∨op=49
  ·refine Ev.of fun n=>?_;cases hk:a.kids with
   |nil=>rcases hm with rfl|rfl<;>rfl
   |cons x l=>
    have e:(((x::l).length:Int)==0)=false:=by simp;omega
    have hg:idx (x::l) (((x::l).length:Int) - 1)=(x::l).getLast?:=by
     unfold idx;rw[if_pos (by simp),List.getLast?_eq_getElem?];congr 1;omega
    rcases hm with rfl|rfl
    ·simp only[show((48:Int)==48)=true from rfl,e,cond_true,cond_false,qAa,LK];rfl
    ·rw[hg];cases hq:(x::l).getLast? with
     |none=>rw[List.getLast?_eq_none_iff]at hq;cases hq
     |some y=>simp only[show((49:Int)==48)=false from rfl,show((49:Int)==49)=true from rfl,e,cond_true,cond_false,qAa];rfl
  ·have h26:=of_decide_eq_false e26;simp only[beq_eq_false_iff_ne,ne_eq]at *;have h1:(op==48)=false:=by simpa using fun e=>hm (.inl e)
   have h2:(op==49)=false:=by simpa using fun e=>hm (.inr e)
   simp only[h1,h2,cond_false,qAa];exact Ev.pz (aDT (by omega) (h (by omega)))
end Abs
end Go.Proofs.YtneeginmfjageaaGreat

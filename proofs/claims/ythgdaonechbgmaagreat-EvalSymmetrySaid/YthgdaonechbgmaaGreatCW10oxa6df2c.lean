/-
  Worlds: what names come to, and what Eval and Holds come to. Conditions: names are no longer than a string may be; lemmas without a program.
-/
import Derived.Test.YthgdaonechbgmaaGreatCW42oxb9d61c
set_option linter.all false
namespace Go.Proofs.YthgdaonechbgmaaGreat
namespace Abs
section
open Go
def elems(name:Str)(k:Nat):List Val:=(List.range k).map fun(i:Nat)=>Val.mk 3 (i:Int) name []
def yM:List Carrier→List Int→Str→Option Val
 |c::cs,z::zs,s=>cond (c.name==s) (some (mkSet (elems c.name z.toNat))) (cond (decide (0≤dR (fun e=>s==e) 0 c.elems)) (some (.mk 3 (dR (fun e=>s==e) 0 c.elems) c.name [])) (yM cs zs s))
 |_,_,_=>none
def vG(w:S_api_World):List (Str×Val):=gI ((w.env.names.zip w.values).map fun q=>(q.1.name,q.2)) []
def aI(w:S_api_World)(s:Str):Val:=match dn (vG w) s with
 |some v=>v
 |none=>(yM w.env.carriers w.sizes s).getD v0
theorem mR{w:S_api_World}(h:gW w=true):aW w.env=true∧uj w.env w.sizes=true∧w.values.length=w.env.names.length∧∀q∈w.env.names.zip w.values,hasB w.env w.sizes q.1.ty q.2=true:=by
 unfold gW at h
 grind
theorem aFM(nm:Str)(z:Int)(h0:0≤z)(h8:z≤8):Ev (fun n=>MH n nm z) (elems nm z.toNat):=by
 have hz:(((List.range z.toNat).length:Nat):Int)=z:=by rw[List.length_range];omega
 have h:=mG (ρ:=List Val) (List.range z.toNat) (fun n=>BX n nm z) (fun i s=>(s,i)) (fun i=>[Val.mk 3 (i:Int) nm []]) 1000 (by omega) (fun n rec s=>by
  unfold BX;rw[hz,decide_eq_false (Int.lt_irrefl _)];rfl) (fun pre x suf s e hb=>⟨0,fun n hn rec=>by
  have hx:x=pre.length:=by
   have h1:=congrArg (fun l=>l[pre.length]?) e
   grind
  have hl:pre.length<z.toNat:=by
   grind
  unfold BX;rw[decide_eq_true (by simp;omega),hx];rw[dQ (by simpa using hb)];rfl⟩) (s0:=[]) (by rw[flatMap_one];simp;omega)
 rw[flatMap_one]at h;exact Ev.bind h (Ev.ret _)
theorem aAs(es:List Str)(s:Str):Ev (fun n=>Y1 n es s) (dR (fun e=>s==e) 0 es):=by
 exact vo es (fun n k i=>ae8 n es s k i) (fun _ x=>some (s==x)) (fun e=>s==e) (fun n k i=>rfl) (fun x _=>Ev.ret _)
theorem aea:∀(pre:List Carrier) (ps:List Int) (c:Carrier) (suf:List Carrier) (z:Int) (zs:List Int),pre.length=ps.length→J4 (pre++c::suf) (ps++z::zs)=true→abf c z=false
 |[],[],c,suf,z,zs,_,h=>by
  simp only[qAo,J4,qAa,qAV]at h;exact h.1
 |[],p::ps,_,_,_,_,hl,_=>by simp at hl
 |a::pre,[],_,_,_,_,hl,_=>by simp at hl
 |a::pre,p::ps,c,suf,z,zs,hl,h=>by
  simp only[qAM,J4,qAa]at h;exact aea pre ps c suf z zs (by simpa using hl) h.2
theorem adi{c:Carrier}{z:Int}(h:abf c z=false):1≤z∧z≤8∧((c.elems.length:Int)=0∨z=c.elems.length):=by
 unfold abf at h
 grind
theorem awM{env:Env}{sz:List Int}(h:uj env sz=true):J4 env.carriers sz=true:=by
 unfold uj at h
 grind
theorem anH(env:Env)(sz:List Int)(hf:uj env sz=true)(s:Str):∀(suf:List Carrier) (zs:List Int) (pre:List Carrier) (ps:List Int),env.carriers=pre++suf→sz=ps++zs→pre.length=ps.length→suf.length=zs.length→
  ∃N,∀n,N≤n→∀k,suf.length+1≤k→YV n env.carriers sz s k (pre.length:Int)=some (match yM suf zs s with|some v=>.rt (.ok v)|none=>.nx ())
 |[],[],pre,ps,he,_,_,_=>by
  refine⟨0,fun n _ k hk=>?_⟩;obtain⟨j,rfl⟩:∃j,k=j+1:=⟨k - 1,by omega⟩;show FN n env.carriers sz s _ _=_;unfold FN;rw[decide_eq_false (by rw[he];simp)];rfl
 |[],z::zs,_,_,_,_,_,h=>by simp at h
 |c::suf,[],_,_,_,_,_,h=>by simp at h
 |c::suf,z::zs,pre,ps,he,hz,hp,hl=>by
  have hfit:=awM hf;rw[he,hz]at hfit;obtain⟨z1,z2,_⟩:=adi (aea pre ps c suf z zs hp hfit);obtain⟨N1,h1⟩:=aFM c.name z (by omega) z2;obtain⟨N2,h2⟩:=aAs c.elems s;obtain⟨N3,h3⟩:=anH env sz hf s suf zs (pre++[c]) (ps++[z]) (by simp[he]) (by simp[hz]) (by simp[hp]) (by simpa using hl);refine⟨N1+N2+N3,fun n hn k hk=>?_⟩;obtain⟨j,rfl⟩:∃j,k=j+1:=⟨k - 1,by omega⟩;have h1:MH n c.name z=_:=h1 n (by omega);have h2:Y1 n c.elems s=_:=h2 n (by omega);have h3:=h3 n (by omega) j (by simp at hk;omega);have hi:=(bg hz).2;rw[←hp]at hi;show FN n env.carriers sz s (YV n env.carriers sz s j) _=_;unfold FN yM;rw[(bg he).1];simp only[cond_true,(bg he).2,qAb,hi,h1,h2];cases c.name==s
  ·cases decide (0≤dR (fun e=>s==e) 0 c.elems)
   ·rw[show(pre.length:Int)+1=((pre++[c]).length:Int) by simp];exact h3
   ·rfl
  ·rfl
theorem apK(env:Env)(sz:List Int)(hf:uj env sz=true)(hn:(env.carriers.map (·.name)).Nodup)(s:Str):∀(suf:List Carrier) (zs:List Int) (pre:List Carrier) (ps:List Int),env.carriers=pre++suf→sz=ps++zs→pre.length=ps.length→suf.length=zs.length→
  (match yM suf zs s with|some v=>∃t,(s,t)∈suf.flatMap kR∧hasB env sz t v=true|none=>∀t,(s,t)∉suf.flatMap kR)
 |[],[],pre,ps,he,_,_,_=>by simp[yM]
 |[],z::zs,_,_,_,_,_,h=>by simp at h
 |c::suf,[],_,_,_,_,_,h=>by simp at h
 |c::suf,z::zs,pre,ps,he,hz,hp,hl=>by
  have hfit:=awM hf;rw[he,hz]at hfit;obtain⟨z1,z2,z3⟩:=adi (aea pre ps c suf z zs hp hfit);have ih:=apK env sz hf hn s suf zs (pre++[c]) (ps++[z]) (by simp[he]) (by simp[hz]) (by simp[hp]) (by simpa using hl);have hsz:He env sz c.name=z:=by
   have key:∀(q:List Carrier) (i:Int),(∀d∈q,d.name≠c.name)→dR (fun d:Carrier=>d.name==c.name) i (q++c::suf)=i+q.length:=by
    intro q
    induction q with
    |nil=>intro i _;simp[dR]
    |cons d q ihq=>
     intro i h;have h1:(d.name==c.name)=false:=by simpa using h d (by simp)
     rw[qAM,dR,h1,cond_false,ihq _ fun e he=>h e (by simp[he])];simp;omega
   unfold He;rw[he,key pre 0 (fun d hd hdc=>by
    rw[he,qBj,qDe]at hn;exact hn.2.2 d.name (qAJ.2 ⟨d,hd,rfl⟩) c.name (by simp) hdc),Int.zero_add]
   have hi:=(bg hz).2;rw[←hp]at hi;rw[hi];rfl
  have hel:∀i:Int,0≤i→i<z→hasB env sz (nD c.name) (.mk 3 i c.name [])=true:=fun i h1 h2=>by
   rw[show hasB env sz (nD c.name) (.mk 3 i c.name [])=OD env sz c.name (.mk 3 i c.name []) by unfold nD hasB;rfl];unfold OD;simp[Val.kind,Val.name,Val.kids,Val.n,hsz,h1,h2]
  unfold yM;cases hc:(c.name==s)with
  |true=>
   have hc:=eq_of_beq hc;subst hc;refine⟨au (nD c.name),by simp[kR],iV.2 ⟨_,rfl,⟨?_,?_⟩,fun x hx=>?_⟩⟩
   ·unfold elems;rw[qDR];refine List.Pairwise.imp (fun{a b} hab=>?_) qDv;show bQ _ _<0;rw[zw,zy,zy];exact .inr ⟨(pF 3 3).2 rfl,.inl ((ad7 _ _).2 (by omega))⟩
   ·unfold elems;simp;omega
   ·unfold elems at hx;obtain⟨i,hi,rfl⟩:=qAJ.1 hx;rw[qBW]at hi;exact hel i (by omega) (by omega)
  |false=>
   have hge:=mO (fun e=>s==e) c.elems 0 (qBD _);simp only[cond_false];cases hd:decide (0≤dR (fun e=>s==e) 0 c.elems)with
   |true=>
    simp only[cond_true];rw[hd]at hge;obtain⟨e,he',hse⟩:=qCB.1 hge.symm;have hse:s=e:=eq_of_beq hse;refine⟨nD c.name,?_,hel _ (of_decide_eq_true hd) ?_⟩
    ·rw[qBf,qAr];exact .inl (qAk _ (qAJ.2 ⟨e,he',by rw[hse]⟩))
    ·rcases Dw (fun e=>s==e) c.elems []with⟨x,_,_,g1,g2⟩|⟨_,g⟩
     ·simp only[qAA,qAo]at g1 g2;rw[show(((0:Nat):Int))=0 from rfl]at g1 g2;unfold idx at g2;rw[if_pos g1]at g2;have hlt:=(qAH.1 g2).1;rcases z3 with h|h<;>omega
     ·simp only[qAA]at g;rw[show(((0:Nat):Int))=0 from rfl]at g;have:=of_decide_eq_true hd;omega
   |false=>
    simp only[cond_false];rw[hd]at hge;have hno:∀t,(s,t)∉kR c:=fun t ht=>by
     unfold kR at ht;rcases qAh.1 ht with ht|ht
     ·cases ht;simp at hc
     ·obtain⟨e,he',hee⟩:=qAJ.1 ht;cases hee;have:=qDP.1 hge.symm s he';simp at this
    cases hv:yM suf zs s with
    |some v=>
     rw[hv]at ih;obtain⟨t,h1,h2⟩:=ih;exact⟨t,by rw[qBf,qAr];exact .inr h1,h2⟩
    |none=>
     rw[hv]at ih;intro t ht;rw[qBf,qAr]at ht;exact ht.elim (hno t) (ih t)
theorem aA3(ds:List Decl)(vs:List Val)(h:vs.length=ds.length):((ds.zip vs).map fun q=>(q.1.name,q.2)).map (·.1)=ds.map (·.name):=by
 induction ds generalizing vs with
 |nil=>simp
 |cons d ds ih=>
  cases vs with
  |nil=>simp at h
  |cons v vs=>
   simp_all
theorem J8{w:S_api_World}(h:gW w=true)(s:Str):dn (vG w) s=dn ((w.env.names.zip w.values).map fun q=>(q.1.name,q.2)) s∧(((w.env.names.zip w.values).map fun q=>(q.1.name,q.2)).map (·.1)).Nodup:=by
 obtain⟨h1,h2,h3,h4⟩:=mR h;have hn:(((w.env.names.zip w.values).map fun q=>(q.1.name,q.2)).map (·.1)).Nodup:=by
  rw[aA3 _ _ h3];have:=(iJ h1).2.2.2.2;unfold names2 at this
  grind
 unfold vG;rw[QV _ _ _ hn,Oe]
 grind
theorem anT{env:Env}(h:aW env=true):(env.carriers.map (·.name)).Nodup:=by
 have:=(iJ h).2.2.2.2;unfold names2 at this
 grind
theorem PS{w:S_api_World}(h:gW w=true)(s:Str)(t:Ty)(ht:look w.env s=some t):(∃v,dn (vG w) s=some v∧aI w s=v∧hasB w.env w.sizes t v=true)∨(∃v,dn (vG w) s=none∧yM w.env.carriers w.sizes s=some v∧aI w s=v∧hasB w.env w.sizes t v=true):=by
 obtain⟨h1,h2,h3,h4⟩:=mR h;obtain⟨hf,hn⟩:=J8 h s;have un:∀t',(s,t')∈wK w.env→t'=t:=fun t' h'=>by
  have:=(Ae h1).2 h'
  grind
 unfold aI;cases hm:dn (vG w) s with
 |some v=>
  refine .inl ⟨v,rfl,rfl,?_⟩;rw[hf]at hm;rw[qY _ _ _ hn]at hm;obtain⟨q,hq,hqe⟩:=qAJ.1 hm;cases hqe;have:=un q.1.ty (by unfold wK;rw[qAr];exact .inr (qAJ.2 ⟨q.1,(qCR (show(q.1,q.2)∈w.env.names.zip w.values from hq)).1,rfl⟩))
  grind
 |none=>
  have hc:=apK w.env w.sizes h2 (anT h1) s w.env.carriers w.sizes [] [] rfl rfl rfl (Dk h2).symm;cases hv:yM w.env.carriers w.sizes s with
  |some v=>
   rw[hv]at hc;obtain⟨t',h5,h6⟩:=hc;have:=un t' (by unfold wK;rw[qAr];exact .inl h5)
   grind
  |none=>
   exfalso;rw[hv]at hc;have ht:=(Ae h1).1 ht;unfold wK at ht;rcases qAr.1 ht with ht|ht
   ·exact hc t ht
   ·obtain⟨d,hd,hde⟩:=qAJ.1 ht;cases hde;rw[hf]at hm;obtain⟨i,hi,rfl⟩:=qBy hd;have hz:(w.env.names[i],w.values[i]'(by omega))∈w.env.names.zip w.values:=by
     rw[qBF];exact⟨i,by simp;omega,by simp⟩
    have:=(qY ((w.env.names.zip w.values).map fun q=>(q.1.name,q.2)) w.env.names[i].name (w.values[i]'(by omega)) hn).2 (qAJ.2 ⟨_,hz,rfl⟩);rw[hm]at this;cases this
theorem DZ{w:S_api_World}(h:gW w=true):Xp w.env w.sizes (aI w):=fun s t ht=>by
 rcases PS h s t ht with⟨v,_,e,h1⟩|⟨v,_,_,e,h1⟩<;>rw[e]<;>exact h1
theorem aej{w:S_api_World}(h:gW w=true):LkE w.env w.env.carriers w.env.names w.sizes (vG w) (aI w):=fun s t ht b=>by
 obtain⟨h1,h2,_⟩:=mR h;unfold adY;rcases PS h s t ht with⟨v,e1,e2,_⟩|⟨v,e1,e2,e3,_⟩
 ·refine Ev.of fun n=>?_;rw[e1,e2];simp only[qAb,cond_true,alv]
 ·obtain⟨N,hN⟩:=anH w.env w.sizes h2 s w.env.carriers w.sizes [] [] rfl rfl rfl (Dk h2).symm;refine⟨N+w.env.carriers.length+1,fun n hn=>?_⟩
  grind
theorem anK{w:S_api_World}(h:gW w=true):Ev (fun n=>Mt n w) (w.env.carriers,w.env.names,w.sizes,vG w,[]):=by
 obtain⟨h1,h2,h3,h4⟩:=mR h;have hn64:=(iJ h1).2.1;have hl:(w.env.names.zip w.values).length=w.env.names.length:=by rw[qDt];omega
 have e:=wI (ρ:=(List Carrier)×(List Decl)×(List Int)×(List (Str×Val))×(List Bound)) (w.env.names.zip w.values) (fun n=>Cx n w) (fun i s=>(i,s)) (fun q s=>.nx (lJ s q.1.name q.2)) (fun s=>s) (fun suf s=>s.length+suf.length≤1000) (fun n rec s=>by
  unfold Cx;rw[hl,at_end];rfl) (fun pre q suf s e hI=>⟨⟨0,fun n hn rec=>by
  have hpl:pre.length<w.env.names.length:=by rw[←hl,e];simp
  have hg:=congrArg (fun l=>l[pre.length]?) e;simp at hg;rw[qAc (by omega),List.getElem_zip]at hg;have hg:=Option.some.inj hg;unfold Cx;rw[decide_eq_true (by simp;omega)];have i1:idx w.env.names (pre.length:Int)=some q.1:=by
   unfold idx
   grind
  have i2:idx w.values (pre.length:Int)=some q.2:=by
   unfold idx
   grind
  simp only[i1,i2,qAb];rw[LX (by omega)];rfl⟩,fun s' hs'=>by
   cases hs';have:=Dh s q.1.name q.2;simp at hI;omega⟩) (s0:=[]) (by simp;omega)
 rw[Jg (ρ:=(List Carrier)×(List Decl)×(List Int)×(List (Str×Val))×(List Bound)) (fun(s:List (Str×Val)) (q:Decl×Val)=>lJ s q.1.name q.2)]at e;have e2:(w.env.names.zip w.values).foldl (fun(s:List (Str×Val)) (q:Decl×Val)=>lJ s q.1.name q.2) []=vG w:=by
  unfold vG gI;rw[List.foldl_map]
 rw[e2]at e;exact Ev.bind e (Ev.ret _)
theorem acn{env:Env}{sz:List Int}{t:Ty}(h:Good t):∀v,hasB env sz t v=true→pY v:=by
 have leaf:∀v:Val,v.kids=[]→pY v:=fun v e=>by
  obtain⟨k,n,s,ks⟩:=v;subst e;simp[pY,F5]
 have all:∀l:List Val,(∀v∈l,pY v)→F5 l:=by
  intro l
  induction l with
  |nil=>intro _;simp[F5]
  |cons a l ih=>intro h;exact⟨h a (by simp),ih fun v hv=>h v (by simp[hv])⟩
 induction h with
 |int=>intro v h;obtain⟨n,rfl,_⟩:=sG.1 h;exact leaf _ rfl
 |car nm=>
  intro v h;rw[show hasB env sz (nD nm) v=OD env sz nm v by unfold nD hasB;rfl]at h;unfold OD at h
  simp_all
 |pair ha hb iha ihb=>
  intro v h;obtain⟨x,y,rfl,h1,h2⟩:=qJ.1 h;exact⟨by simp,all _ (by simp only[qAh,qCm,or_false];rintro v (rfl|rfl);exact iha _ h1;exact ihb _ h2)⟩
 |set ha ih=>
  intro v h;obtain⟨l,rfl,h1,h2⟩:=iV.1 h;exact⟨by have:=h1.2;omega,all l fun v hv=>ih v (h2 v hv)⟩
theorem Sb{env:Env}{sz:List Int}{t:Ty}(h:Top t)(v:Val)(hv:hasB env sz t v=true):pY v:=by
 rcases h with rfl|h
 ·obtain⟨b,rfl⟩:=Aa.1 hv;cases b<;>simp[aO,pY,F5]
 ·exact acn h v hv
theorem aAc{cs:List Carrier}{ds:List Decl}{sz:List Int}{m:List (Str×Val)}{g:Str→Val}{t:Tm}(h:nK cs ds sz m g t []):Ev (fun n=>rW n cs ds sz m [] t) (match aj g t []with| .ok v=>(v,0,[])| .er e=>(v0,e,[])):=by
 unfold nK at h;cases hr:aj g t []with
 |ok v=>rw[hr]at h;exact Ev.bind h (Ev.ret _)
 |er e=>
  rw[hr]at h;obtain⟨he,z,hz⟩:=h;refine Ev.bind hz (Ev.of fun n=>?_);have e1:(decide ((0:Int)≤e)&&decide (e≤1000))=true:=by rcases he with rfl|rfl<;>rfl
  simp only[PZ.el,e1];unfold FJ;rfl
def l9(w:S_api_World)(t:Tm):Val×Int:=match aj (aI w) t []with| .ok v=>(v,0)| .er e=>(v0,e)
def ig(w:S_api_World)(t:Tm):Val×Int:=cond (gW w&&cO t) (cond ((bT w.env t).2.2 !=0) (v0,(bT w.env t).2.2) (l9 w t)) (v0,1)
theorem Dt{w:S_api_World}{t:Tm}(hw:gW w=true)(hv:cO t=true)(h:(bT w.env t).2.2=0):∃ty,(bT w.env t).1=ty∧Top ty∧HT w.env [] t ty∧bX w.env [] t=.ok ty:=by
 obtain⟨h1,_⟩:=mR hw;unfold bT at h⊢;rw[h1,hv]at h⊢;cases ht:bX w.env [] t with
 |er e p=>rw[ht]at h;exact absurd h (IG t [] e p ht)
 |ok ty=>exact⟨ty,rfl,sV h1 wR ht,apj h1 t 1 [] ty (sP hv) wR ht,rfl⟩
theorem arq{w:S_api_World}{t:Tm}{ty:Ty}(hw:gW w=true)(hv:cO t=true)(ht:HT w.env [] t ty):nK w.env.carriers w.env.names w.sizes (vG w) (aI w) t []:=
 (aek (DZ hw) (aej hw) t).1 1 [] ty [] (sP hv) ht .nil (by simp)
theorem Qt{w:S_api_World}{t:Tm}{ty:Ty}{v:Val}(hw:gW w=true)(ht:HT w.env [] t ty)(h:aj (aI w) t []=.ok v):hasB w.env w.sizes ty v=true:=sound (DZ hw) t [] ty [] v ht .nil h
theorem H7(w:S_api_World)(t:Tm)(hs:FQ w.env)(hS:iN t):Ev (fun n=>mU n w t) (ig w t):=by
 unfold mU ig;refine Ev.bind (a:=!(gW w&&cO t)) ?_ ?_
 ·refine Ev.bind (Zw w hs) ?_;cases gW w with
  |false=>exact Ev.ret _
  |true=>exact Ev.bind (OB t hS) (Ev.ret _)
 ·cases hq:(gW w&&cO t)with
  |false=>exact Ev.ret _
  |true=>
   rw[qAa]at hq;refine Ev.bind (QD w.env t hs hS) ?_;cases he:((bT w.env t).2.2 !=0)with
   |true=>exact Ev.ret _
   |false=>
    obtain⟨ty,h1,h2,h3,_⟩:=Dt hq.1 hq.2 (by simpa using he);refine Ev.bind (anK hq.1) (Ev.bind (aAc (arq hq.1 hq.2 h3)) ?_);unfold l9;cases hr:aj (aI w) t []with
    |ok v=>exact Ev.bind (adp v (Sb h2 v (Qt hq.1 h3 hr))) (Ev.ret _)
    |er e=>exact Ev.bind (adp v0 (by simp[v0,pY,F5])) (Ev.ret _)
theorem aFr:∀t:Tm,∃c,Ev (fun n=>KT n t) c:=Tm.ind fun op nm k u ks ih=>by
 have hz:∀x:Tm,∃c,x∈ks→Ev (fun n=>KT n x) c:=fun x=>by
  by_cases h:x∈ks
  ·simp_all
  simp_all
 obtain⟨cf,hcf⟩:=qCu hz
 let f:Int→Tm→Int:=fun i x=>cond (bY op&&i==1) (IntKind.wrap .i64 (cf x*64)) (cf x)
 have key:∀(suf pre:List Tm) (s:Int),ks=pre++suf→∃r,∃N,∀n,N≤n→∀j,suf.length+1≤j→Zl n (KT n) (.mk op nm k u ks) j (s,(pre.length:Int))=some r:=by
  intro suf
  induction suf with
  |nil=>
   intro pre s hp;refine⟨.nx s,0,fun n _ j hj=>?_⟩;obtain⟨j,rfl⟩:∃q,j=q+1:=⟨j - 1,by omega⟩;show FL n _ (.mk op nm k u ks) _ _=_;unfold FL;have e:decide ((pre.length:Int)<(ks.length:Int))=false:=decide_eq_false (by rw[hp];simp);show cond (decide ((pre.length:Int)<(ks.length:Int))) _ _=_;rw[e];rfl
  |cons x suf ihs=>
   intro pre s hp;obtain⟨N,hN⟩:=hcf x (by rw[hp];simp);obtain⟨r,M,hM⟩:=ihs (pre++[x]) (IntKind.wrap .i64 (s+f (pre.length:Int) x)) (by simp[hp]);refine⟨cond (decide (20000000<IntKind.wrap .i64 (s+f (pre.length:Int) x))) (.rt 20000001) r,N+M,fun n hn j hj=>?_⟩;obtain⟨j,rfl⟩:∃q,j=q+1:=⟨j - 1,by omega⟩;have hN:KT n x=_:=hN n (by omega);have hM:=hM n (by omega) j (by simp at hj;omega);show FL n _ (.mk op nm k u ks) (Zl n _ (.mk op nm k u ks) j) _=_;unfold FL;show cond (decide ((pre.length:Int)<(ks.length:Int))) (Option.bind (idx ks (pre.length:Int)) _) _=_;rw[(bg hp).1,(bg hp).2];simp only[cond_true,qAb,hN,abj,Tm.op];have e:(((cond (bY op) (some ((pre.length:Int)==1)) (some false)).bind fun(s4:Bool)=>cond s4 (some (IntKind.wrap .i64 (cf x*64))) (some (cf x))):Option Int)=some (f (pre.length:Int) x):=by
    show _=some (cond (bY op&&(pre.length:Int)==1) _ _);cases bY op<;>cases(pre.length:Int)==1<;>rfl
   rw[e];simp only[qAb];cases decide (20000000<IntKind.wrap .i64 (s+f (pre.length:Int) x))with
   |true=>rfl
   |false=>
    simp only[cond_false];rw[show(pre.length:Int)+1=((pre++[x]).length:Int) by simp];exact hM
 obtain⟨r,N,h⟩:=key ks [] 1 rfl;refine⟨match r with| .nx s=>s| .rt s=>s,Ev.succ ⟨N+ks.length+1,fun n hn=>?_⟩⟩;show RL n _ (.mk op nm k u ks)=_;unfold RL
 grind
theorem Dq(t:Tm):∃b,Ev (fun n=>sM n t) b:=by
 obtain⟨c,hc⟩:=aFr t;refine⟨cond (cO t) (decide (c≤20000000)) true,?_⟩;refine Ev.bind (Ev.bind (xS t) ?_) (Ev.ret _);cases cO t with
 |false=>exact Ev.ret _
 |true=>exact Ev.bind hc (Ev.ret _)
theorem Q7(env:Env):∃b,Ev (fun n=>Ah n env) b:=by
 refine⟨decide ((env.carriers.length:Int)≤100)&&decide ((env.names.length:Int)≤100),Ev.of fun n=>?_⟩;unfold Ah
 grind
theorem nL:Ev (fun n=>(jf n).bind fun x=>some x) true:=Ev.bind (a:=true) (Ev.ret _) (Ev.ret _)
theorem Iu(a b:Val):Ev (fun n=>dB n a b) (eD a b):=acB a b
theorem zo(a b:Val):eD a b=true↔a=b:=by unfold eD;rw[beq_iff_eq,gF]
structure Vald(w:S_api_World)(t:Tm)(ty:Ty)(v:Val):Prop where
 hw:gW w=true
 hm:cO t=true
 ht:HT w.env [] t ty
 hy:bX w.env [] t=.ok ty
 hp:Top ty
 he:aj (aI w) t []=.ok v
 hx:ig w t=(v,0)
theorem Vald.has{w:S_api_World}{t:Tm}{ty:Ty}{v:Val}(h:Vald w t ty v):hasB w.env w.sizes ty v=true:=Qt h.hw h.ht h.he
theorem ahN{w:S_api_World}{t:Tm}{ty:Ty}(hw:gW w=true)(hv:cO t=true)(ht:HT w.env [] t ty):Er (aj (aI w) t []):=(arq hw hv ht).er
theorem Iq{w:S_api_World}{t:Tm}(h:(ig w t).2=0):∃ty v,Vald w t ty v:=by
 unfold ig at h;cases hq:(gW w&&cO t)with
 |false=>rw[hq]at h;cases h
 |true=>
  rw[hq]at h;rw[qAa]at hq;cases he:((bT w.env t).2.2 !=0)with
  |true=>rw[he]at h;simp at he;exact absurd h he
  |false=>
   obtain⟨ty,h1,h2,h3,h4⟩:=Dt hq.1 hq.2 (by simpa using he);rw[he]at h;cases hr:aj (aI w) t []with
   |er e=>
    have:=ahN hq.1 hq.2 h3 e hr;unfold l9 at h
    grind
   |ok v=>
    refine⟨ty,v,hq.1,hq.2,h3,h4,h2,hr,?_⟩;unfold ig l9
    grind
def Gh(c:Str)(pm:List Int)(k n:Int)(s:Str):Int:=cond (k==3&&(s==c&&(decide (0≤n)&&decide (n<(pm.length:Int))))) ((idx pm n).getD n) n
mutual
def iL(c:Str)(pm:List Int):Val→Val
 | .mk k n s ks=>.mk k (Gh c pm k n s) s (cond (k==5) (sortV (JZ c pm ks)) (JZ c pm ks))
def JZ(c:Str)(pm:List Int):List Val→List Val
 |[]=>[]
 |v::vs=>iL c pm v::JZ c pm vs
end
theorem aiQ(c:Str)(pm:List Int):∀l:List Val,JZ c pm l=l.map (iL c pm)
 |[]=>rfl
 |v::vs=>by rw[JZ,aiQ c pm vs];rfl
def awm(m:Nat)(x:Int)(s:List Bool):Bool:=cond (decide (x<0)) true (cond (decide ((m:Int)≤x)) true ((idx s x).getD true))
def chk(m:Nat):List Int→List Bool→Option (List Bool)
 |[],s=>some s
 |x::xs,s=>cond (awm m x s) none (chk m xs (upd s x true))
def aDq(pm:List Int)(m:Nat):Bool:=((pm.length:Int)==(m:Int))&&(chk m pm (List.replicate m false)).isSome
theorem aGz{m:Nat}{x:Int}{s:List Bool}(h:awm m x s=false):0≤x∧x<m∧idx s x=some false:=by
 unfold awm at h;by_cases h0:x<0
 ·rw[decide_eq_true h0]at h;cases h
 ·by_cases h1:(m:Int)≤x
  ·rw[decide_eq_false h0,decide_eq_true h1]at h;cases h
  ·rw[decide_eq_false h0,decide_eq_false h1]at h;refine⟨by omega,by omega,?_⟩;cases hi:idx s x with
   |none=>rw[hi]at h;cases h
   |some b=>rw[hi]at h;cases b<;>simp_all
theorem avK{s:List Bool}{x y:Int}(hx:0≤x)(hxs:∃b,idx s x=some b)(h:idx (upd s x true) y=some false):y≠x∧idx s y=some false:=by
 obtain⟨b,hb⟩:=hxs;unfold upd idx at *;by_cases hy:0≤y
 ·rw[if_pos hy]at h⊢;rw[if_pos hx]at hb;by_cases e:y=x
  ·subst e;rw[qCx (by exact(qAH.1 hb).1)]at h;cases h
  ·rw[qBV (by omega)]at h;exact⟨e,h⟩
 ·rw[if_neg hy]at h;cases h
theorem azu(m:Nat):∀(l:List Int) (s s':List Bool),chk m l s=some s'→(∀x∈l,0≤x∧x<m∧idx s x=some false)∧l.Nodup
 |[],_,_,_=>⟨fun x hx=>(by cases hx),.nil⟩
 |x::xs,s,s',h=>by
  unfold chk at h;cases hb:awm m x s with
  |true=>rw[hb]at h;cases h
  |false=>
   rw[hb]at h;obtain⟨h1,h2⟩:=azu m xs _ s' h;have q:=aGz hb;refine⟨fun y hy=>?_,qCq.2 ⟨fun hx=>?_,h2⟩⟩
   ·rcases qAh.1 hy with rfl|hy
    ·exact q
    ·obtain⟨a1,a2,a3⟩:=h1 y hy;exact⟨a1,a2,(avK q.1 ⟨_,q.2.2⟩ a3).2⟩
   ·exact(avK q.1 ⟨_,q.2.2⟩ (h1 x hx).2.2).1 rfl
theorem awD:∀(m:Nat) (l:List Int),l.Nodup→(∀x∈l,0≤x∧x<m)→l.length≤m
 |0,l,_,h=>by
  cases l with
  |nil=>simp
  |cons a l=>have:=h a (by simp);omega
 |m+1,l,hn,h=>by
  by_cases hm:(m:Int)∈l
  ·have:=awD m (l.erase (m:Int)) (hn.erase _) fun x hx=>by
    rw[hn.mem_erase_iff]at hx;have:=h x hx.2;have:=hx.1;omega
   rw[List.length_erase_of_mem hm]at this;omega
  ·have:=awD m l hn fun x hx=>by
    have h1:=h x hx;have:x≠(m:Int):=fun e=>hm (e▸hx);omega
   omega
structure PBi(pm pm':List Int)(m:Nat):Prop where
 l:pm.length=m
 l':pm'.length=m
 h:∀n:Int,0≤n→n<m→∃x,idx pm n=some x∧0≤x∧x<m∧idx pm' x=some n
 h':∀n:Int,0≤n→n<m→∃x,idx pm' n=some x∧0≤x∧x<m∧idx pm x=some n
theorem PBi.symm{pm pm':List Int}{m:Nat}(h:PBi pm pm' m):PBi pm' pm m:=⟨h.l',h.l,h.h',h.h⟩
theorem alY{α:Type}{l:List α}{i:Nat}(h:i<l.length):idx l (i:Int)=some l[i]:=by
 unfold idx;rw[if_pos (by omega),qBM,qAc h]
theorem aLS{pm:List Int}{m:Nat}(h:aDq pm m=true):PBi pm ((List.range m).map fun(j:Nat)=>((pm.idxOf (j:Int):Nat):Int)) m:=by
 unfold aDq at h;rw[qAa]at h;have hl:pm.length=m:=by have:=beq_iff_eq.1 h.1;omega
 obtain⟨s',hs⟩:=qCr.1 h.2;obtain⟨h1,h2⟩:=azu m pm _ s' hs;have surj:∀j:Int,0≤j→j<m→j∈pm:=fun j j0 j1=>qAn fun hj=>by
  have:=awD m (j::pm) (qCq.2 ⟨hj,h2⟩) fun x hx=>by
   rcases qAh.1 hx with rfl|hx
   ·exact⟨j0,j1⟩
   ·exact⟨(h1 x hx).1,(h1 x hx).2.1⟩
  rw[qAp]at this;omega
 have inv:∀j:Nat,j<m→idx ((List.range m).map fun(j:Nat)=>((pm.idxOf (j:Int):Nat):Int)) (j:Int)=some ((pm.idxOf (j:Int):Nat):Int):=fun j hj=>by
  rw[alY (by simpa using hj)];simp
 refine⟨hl,by simp,fun n n0 n1=>?_,fun n n0 n1=>?_⟩
 ·obtain⟨i,rfl⟩:∃i:Nat,n=i:=⟨n.toNat,by omega⟩;have hi:i<pm.length:=by omega
  have hx:=h1 pm[i] (qAO hi);refine⟨pm[i],alY hi,hx.1,hx.2.1,?_⟩;obtain⟨j,hj⟩:∃j:Nat,pm[i]=j:=⟨pm[i].toNat,by omega⟩;rw[hj,inv j (by omega),←hj,h2.idxOf_getElem]
 ·obtain⟨j,rfl⟩:∃i:Nat,n=i:=⟨n.toNat,by omega⟩;have hm:=surj j (by omega) n1;have hlt:=List.idxOf_lt_length_iff.2 hm;refine⟨_,inv j (by omega),by omega,by omega,?_⟩;rw[alY hlt,List.getElem_idxOf]
section
variable {env:Env}{sz:List Int}{c:Str}{pm pm':List Int}{m:Nat}
theorem agk(n:Int):iL c pm (iY n)=iY n:=by unfold iY;simp[iL,JZ,Gh]
theorem UY(b:Bool):iL c pm (aO b)=aO b:=by cases b<;>simp[aO,iL,JZ,Gh]
theorem abT(a b:Val):iL c pm (aG a b)=aG (iL c pm a) (iL c pm b):=by unfold aG;simp[iL,JZ,Gh]
theorem Y5(l:List Val):iL c pm (mkSet l)=mkSet (sortV (l.map (iL c pm))):=by unfold mkSet;simp[iL,aiQ,Gh]
theorem amJ(n:Int)(s:Str):iL c pm (.mk 3 n s [])=.mk 3 (Gh c pm 3 n s) s []:=by simp[iL,JZ]
theorem Zc{s:Str}(h:s≠c)(n:Int):Gh c pm 3 n s=n:=by
 unfold Gh;rw[show(s==c)=false by simpa using h];rfl
theorem aEx(h:PBi pm pm' m){n:Int}(h0:0≤n)(h1:n<m):∃x,Gh c pm 3 n c=x∧0≤x∧x<m∧Gh c pm' 3 x c=n:=by
 obtain⟨x,e1,x0,x1,e2⟩:=h.h n h0 h1;refine⟨x,?_,x0,x1,?_⟩
 ·unfold Gh;rw[decide_eq_true h0,h.l,decide_eq_true h1,e1];simp
 ·unfold Gh;rw[decide_eq_true x0,h.l',decide_eq_true x1,e2];simp
theorem aeo{nm:Str}{v:Val}:hasB env sz (nD nm) v=true↔∃n,v=.mk 3 n nm []∧0≤n∧n<He env sz nm:=by
 rw[show hasB env sz (nD nm) v=OD env sz nm v by unfold nD hasB;rfl];obtain⟨k,n,s,ks⟩:=v;unfold OD;simp only[Val.kind,Val.name,Val.kids,Val.n,qAa,beq_iff_eq,decide_eq_true_eq,Val.mk.injEq];constructor
 ·rintro⟨rfl,rfl,h,h0,h1⟩;exact⟨n,⟨rfl,rfl,rfl,qAD.1 (by omega)⟩,of_decide_eq_true h0,of_decide_eq_true h1⟩
 ·rintro⟨_,⟨rfl,rfl,rfl,rfl⟩,h0,h1⟩;exact⟨rfl,rfl,rfl,decide_eq_true h0,decide_eq_true h1⟩
theorem ap4(h:PBi pm pm' m)(hz:He env sz c=m){t:Ty}(ht:Good t):∀v,hasB env sz t v=true→hasB env sz t (iL c pm v)=true∧iL c pm' (iL c pm v)=v:=by
 induction ht with
 |int=>
  intro v hv;obtain⟨n,rfl,hn⟩:=sG.1 hv;rw[agk,agk];exact⟨hv,rfl⟩
 |car nm=>
  intro v hv;obtain⟨n,rfl,h0,h1⟩:=aeo.1 hv;rw[amJ,amJ];by_cases e:nm=c
  ·subst e;rw[hz]at h1;obtain⟨x,e1,x0,x1,e2⟩:=aEx (c:=nm) h h0 h1;rw[e1,e2];exact⟨aeo.2 ⟨x,rfl,x0,by omega⟩,rfl⟩
  ·rw[Zc e,Zc e];exact⟨hv,rfl⟩
 |pair ha hb iha ihb=>
  intro v hv;obtain⟨x,y,rfl,h1,h2⟩:=qJ.1 hv;rw[abT,abT,(iha x h1).2,(ihb y h2).2];exact⟨qJ.2 ⟨_,_,rfl,(iha x h1).1,(ihb y h2).1⟩,rfl⟩
 |set ha ih=>
  intro v hv;obtain⟨l,rfl,h1,h2⟩:=iV.1 hv;rw[Y5,Y5];refine⟨iV.2 ⟨_,rfl,⟨cZ _,?_⟩,fun x hx=>?_⟩,?_⟩
  ·have:=eP (l.map (iL c pm));rw[qAi]at this;exact qAs this h1.2
  ·obtain⟨y,hy,rfl⟩:=qAJ.1 ((aV _ _).1 hx);exact(ih y (h2 y hy)).1
  ·refine congrArg mkSet (vw h1.1 fun x=>?_).symm;simp only[qAJ,aV];constructor
   ·exact fun hx=>⟨_,⟨x,hx,rfl⟩,(ih x (h2 x hx)).2⟩
   ·rintro⟨_,⟨y,hy,rfl⟩,rfl⟩;rw[(ih y (h2 y hy)).2];exact hy
theorem aeh(h:PBi pm pm' m)(hz:He env sz c=m):Rn env sz (iL c pm) (iL c pm'):=by
 refine⟨agk,UY,abT,Y5,fun t v hv=>⟨hv.1,?_⟩,fun t v hv=>?_⟩
 ·rcases hv.1 with rfl|ht
  ·obtain⟨b,rfl⟩:=Aa.1 hv.2;rw[UY];exact hv.2
  ·exact(ap4 h hz ht v hv.2).1
 ·rcases hv.1 with rfl|ht
  ·obtain⟨b,rfl⟩:=Aa.1 hv.2;rw[UY,UY]
  ·exact(ap4 h hz ht v hv.2).2
end
theorem aJs{env:Env}{sz:List Int}(hn:(env.carriers.map (·.name)).Nodup){pre:List Carrier}{ps:List Int}{c:Carrier}{suf:List Carrier}{z:Int}{zs:List Int}(he:env.carriers=pre++c::suf)(hz:sz=ps++z::zs)(hp:pre.length=ps.length):He env sz c.name=z:=by
 have key:∀(q:List Carrier) (i:Int),(∀d∈q,d.name≠c.name)→dR (fun d:Carrier=>d.name==c.name) i (q++c::suf)=i+q.length:=by
  intro q
  induction q with
  |nil=>intro i _;simp[dR]
  |cons d q ihq=>
   intro i h;have h1:(d.name==c.name)=false:=by simpa using h d (by simp)
   rw[qAM,dR,h1,cond_false,ihq _ fun e he=>h e (by simp[he])];simp;omega
 unfold He;rw[he,key pre 0 (fun d hd hdc=>by
  rw[he,qBj,qDe]at hn;exact hn.2.2 d.name (qAJ.2 ⟨d,hd,rfl⟩) c.name (by simp) hdc),Int.zero_add]
 have hi:=(bg hz).2;rw[←hp]at hi;rw[hi];rfl
theorem akw(env:Env)(sz:List Int)(hn:(env.carriers.map (·.name)).Nodup)(s:Str)(v:Val):∀(suf:List Carrier) (zs:List Int) (pre:List Carrier) (ps:List Int),env.carriers=pre++suf→sz=ps++zs→pre.length=ps.length→yM suf zs s=some v→
  (∃d∈env.carriers,v=mkSet (elems d.name (He env sz d.name).toNat))∨∃d∈env.carriers,d.elems≠[]∧∃i,v=.mk 3 i d.name []
 |[],_,_,_,_,_,_,h=>by simp[yM]at h
 |c::suf,[],_,_,_,_,_,h=>by simp[yM]at h
 |c::suf,z::zs,pre,ps,he,hz,hp,h=>by
  have hc:c∈env.carriers:=by rw[he];simp
  unfold yM at h;cases hcs:(c.name==s)with
  |true=>
   rw[hcs]at h;cases h;exact .inl ⟨c,hc,by rw[aJs hn he hz hp]⟩
  |false=>
   rw[hcs]at h;cases hd:decide (0≤dR (fun e=>s==e) 0 c.elems)with
   |true=>
    rw[hd]at h;cases h;refine .inr ⟨c,hc,fun e=>?_,_,rfl⟩;rw[e]at hd;simp[dR]at hd
   |false=>
    rw[hd]at h;exact akw env sz hn s v suf zs (pre++[c]) (ps++[z]) (by simp[he]) (by simp[hz]) (by simp[hp]) h
theorem ab7{env:Env}{sz:List Int}(nm:Str)(x:Val):x∈elems nm (He env sz nm).toNat↔hasB env sz (nD nm) x=true:=by
 rw[aeo];unfold elems;rw[qAJ];constructor
 ·rintro⟨i,hi,rfl⟩;rw[qBW]at hi;exact⟨i,rfl,by omega,by omega⟩
 ·rintro⟨n,rfl,h0,h1⟩;exact⟨n.toNat,by rw[qBW];omega,by rw[Int.toNat_of_nonneg h0]⟩
theorem aCD(nm:Str)(k:Nat):(elems nm k).Pairwise iA:=by
 unfold elems;rw[qDR];refine List.Pairwise.imp (fun{a b} hab=>?_) qDv;show bQ _ _<0;rw[zw,zy,zy];exact .inr ⟨(pF 3 3).2 rfl,.inl ((ad7 _ _).2 (by omega))⟩
theorem axy{α β:Type}(f:α→β)(l:List (Str×α))(k:Str):dn (l.map fun p=>(p.1,f p.2)) k=(dn l k).map f:=by
 induction l with
 |nil=>rfl
 |cons p l ih=>rw[qAy,mg,mg,ih];split<;>rfl
def Af(T:Val→Val)(w:S_api_World):S_api_World:=⟨w.env,w.sizes,w.values.map T⟩
theorem apR{w:S_api_World}{T T':Val→Val}(hw:gW w=true)(h:Rn w.env w.sizes T T'):gW (Af T w)=true:=by
 obtain⟨h1,h2,h3,h4⟩:=mR hw;unfold gW Af;simp only[h1,h2,qAi,h3,qAu,bne_self_eq_false,qBb,qAV,qDP,qDp];intro q hq;rw[List.zip_map_right]at hq;obtain⟨p,hp,rfl⟩:=qAJ.1 hq;have hd:=(qCR (show(p.1,p.2)∈w.env.names.zip w.values from hp)).1;rw[show hasB w.env w.sizes (Prod.map id T p).1.ty (Prod.map id T p).2=true from(h.has _ _ ⟨UH (Po h1 hd).2.1,h4 p hp⟩).2];exact fun h=>by cases h
theorem aAK{w:S_api_World}{c:Str}{pm pm':List Int}{m:Nat}(hw:gW w=true)(h:PBi pm pm' m)(hz:He w.env w.sizes c=m)(hc:∀d∈w.env.carriers,d.name=c→d.elems=[])(s:Str)(t:Ty)(ht:look w.env s=some t):aI (Af (iL c pm) w) s=iL c pm (aI w s):=by
 have R:=aeh (env:=w.env) (sz:=w.sizes) h hz;have R':=aeh (env:=w.env) (sz:=w.sizes) h.symm hz;have hw':=apR hw R;have e:dn (vG (Af (iL c pm) w)) s=(dn (vG w) s).map (iL c pm):=by
  rw[(J8 hw' s).1,(J8 hw s).1,←axy];unfold Af;rw[List.zip_map_right,qBh,qBh];rfl
 rcases PS hw s t ht with⟨v,e1,e2,_⟩|⟨v,e1,e2,e3,_⟩
 ·rw[e2];unfold aI;rw[e,e1];rfl
 ·rw[e3];unfold aI;rw[e,e1];show(yM w.env.carriers w.sizes s).getD v0=_;rw[e2];show v=_;obtain⟨h1,h2,h3,h4⟩:=mR hw;rcases akw w.env w.sizes (anT h1) s v w.env.carriers w.sizes [] [] rfl rfl rfl e2 with⟨d,hd,rfl⟩|⟨d,hd,hne,i,rfl⟩
  ·rw[Y5];refine congrArg mkSet (vw (aCD _ _) fun x=>?_);rw[qAJ,ab7];constructor
   ·intro hx;have g:jo w.env w.sizes (nD d.name) x:=⟨.inr (.car _),hx⟩;exact⟨_,(ab7 _ _).2 (R'.has _ _ g).2,R'.inv _ _ g⟩
   ·rintro⟨y,hy,rfl⟩;exact(R.has _ _ ⟨.inr (.car _),(ab7 _ _).1 hy⟩).2
  ·rw[amJ,Zc fun e=>hne (hc d hd e)]
theorem aKa{w:S_api_World}{c:Str}{pm pm':List Int}{m:Nat}(hw:gW w=true)(h:PBi pm pm' m)(hz:He w.env w.sizes c=m)(hc:∀d∈w.env.carriers,d.name=c→d.elems=[])(t:Tm):
  (ig w t).2=11∨(ig (Af (iL c pm) w) t).2=11∨(ig w t).2=(ig (Af (iL c pm) w) t).2∧((ig w t).2=0→iL c pm (ig w t).1=(ig (Af (iL c pm) w) t).1):=by
 have R:=aeh (env:=w.env) (sz:=w.sizes) h hz;have R':=aeh (env:=w.env) (sz:=w.sizes) h.symm hz;have hw':=apR hw R;unfold ig;rw[hw,hw'];cases hv:cO t with
 |false=>exact .inr (.inr ⟨rfl,fun h=>by cases h⟩)
 |true=>
  show(cond ((bT w.env t).2.2 !=0) (v0,(bT w.env t).2.2) (l9 w t)).2=11∨(cond ((bT w.env t).2.2 !=0) (v0,(bT w.env t).2.2) (l9 (Af (iL c pm) w) t)).2=11∨(cond ((bT w.env t).2.2 !=0) (v0,(bT w.env t).2.2) (l9 w t)).2=(cond ((bT w.env t).2.2 !=0) (v0,(bT w.env t).2.2) (l9 (Af (iL c pm) w) t)).2∧((cond ((bT w.env t).2.2 !=0) (v0,(bT w.env t).2.2) (l9 w t)).2=0→iL c pm (cond ((bT w.env t).2.2 !=0) (v0,(bT w.env t).2.2) (l9 w t)).1=(cond ((bT w.env t).2.2 !=0) (v0,(bT w.env t).2.2) (l9 (Af (iL c pm) w) t)).1);cases he:((bT w.env t).2.2 !=0)with
  |true=>
   refine .inr (.inr ⟨rfl,fun h=>?_⟩);rw[cond_true]at h;rw[show(bT w.env t).2.2=0 from h]at he;cases he
  |false=>
   obtain⟨ty,_,_,h3,_⟩:=Dt hw hv (by simpa using he);have k:=(aFV (mR hw).1 R R' (DZ hw) (aAK hw h hz hc) t).1 [] ty [] wR h3 .nil;have E:=ahN hw hv h3;have E':=ahN (w:=Af (iL c pm) w) hw' hv h3;rw[cond_false,cond_false];unfold l9;change mJ _ (aj (aI w) t []) (aj (aI (Af (iL c pm) w)) t [])at k;cases hr:aj (aI w) t []with
   |er e=>
    cases hr':aj (aI (Af (iL c pm) w)) t []with
    |er e'=>
     rcases E e hr with rfl|rfl
     ·rcases E' e' hr' with rfl|rfl
      ·exact .inr (.inr ⟨rfl,fun h=>by cases h⟩)
      ·exact .inr (.inl rfl)
     ·exact .inl rfl
    |ok v'=>rw[hr,hr']at k;exact .inl k
   |ok v=>
    cases hr':aj (aI (Af (iL c pm) w)) t []with
    |er e'=>rw[hr,hr']at k;exact .inr (.inl k)
    |ok v'=>rw[hr,hr']at k;exact .inr (.inr ⟨rfl,fun _=>(show v'=iL c pm v from k).symm⟩)
end
section
open Go
theorem clipS_ev{α:Type}{l:List α}(h:l.length≤1000000):clipS l=some l:=by
 unfold clipS;rw[qCI (by omega)];rfl
theorem set_mid{α:Type}:∀(pre:List α) (x y:α) (suf:List α),(pre++x::suf).set pre.length y=pre++y::suf
 |[],_,_,_=>rfl
 |p::pre,x,y,suf=>by simp[set_mid pre x y suf]
theorem loopMap{α ρ:Type}(l:List α)(f:α→α)(B:Nat→(Int×List α→Option (LR (List α) ρ))→Int×List α→Option (LR (List α) ρ))(step:Nat→α→Option α)
  (hB:∀n rec i s,s.length=l.length→B n rec (i,s)=cond (decide (i<(l.length:Int))) ((idx s i).bind fun x=>(step n x).bind fun y=>rec (i+1,upd s i y)) (some (.nx s)))
  (hs:∀x∈l,Ev (fun n=>step n x) (f x)):Ev (fun n=>aL (B n) n (0,l)) (.nx (l.map f)):=by
 have key:∀(suf pre q:List α),l=q++suf→pre.length=q.length→∃N,∀n,N≤n→∀k,suf.length+1≤k→aL (B n) k ((pre.length:Int),pre++suf)=some (.nx (pre++suf.map f)):=by
  intro suf
  induction suf with
  |nil=>
   intro pre q hp hq;refine⟨0,fun n _ k hk=>?_⟩;obtain⟨j,rfl⟩:∃j,k=j+1:=⟨k - 1,by simp at hk;omega⟩;show B n (aL (B n) j) _=_;rw[hB _ _ _ _ (by rw[hp];simp[hq]),decide_eq_false (by rw[hp];simp[hq])];rfl
  |cons a suf ih=>
   intro pre q hp hq;obtain⟨N1,h1⟩:=hs a (by rw[hp];simp);obtain⟨N2,h2⟩:=ih (pre++[f a]) (q++[a]) (by rw[hp];simp) (by simp[hq]);refine⟨N1+N2,fun n hn k hk=>?_⟩;obtain⟨j,rfl⟩:∃j,k=j+1:=⟨k - 1,by simp at hk;omega⟩;have h1:step n a=_:=h1 n (by omega);have h2:=h2 n (by omega) j (by simp at hk;omega);show B n (aL (B n) j) _=_;rw[hB _ _ _ _ (by rw[hp];simp[hq]),decide_eq_true (by rw[hp];simp[hq];omega)];simp only[cond_true,gJ,qAb,h1];have e:upd (pre++a::suf) (pre.length:Int) (f a)=pre++f a::suf:=by
    unfold upd;rw[qBM,set_mid]
   rw[e,show(pre.length:Int)+1=((pre++[f a]).length:Int) by simp];simpa using h2
 obtain⟨N,h⟩:=key l [] [] rfl rfl;exact⟨N+l.length+1,fun n hn=>h n (by omega) n (by omega)⟩
theorem copyTypeE_ev:∀t:Ty,H9 t=true→Ev (fun n=>eval_copyType n t) t:=Ty.ind fun k nm ks ih hok=>by
 refine Ev.succ ?_;show Ev (fun n=>eval_copyType_body n (eval_copyType n) (.mk k nm ks)) _;unfold eval_copyType_body slices_Clone_Type slices_Clip_Type;simp only[H9,qAa,decide_eq_true_eq]at hok;simp only[Ty.kind,Ty.name,Ty.kids];rw[qh (by simp only[qAA];omega) (by omega)];refine Ev.bind (Ev.ret _) (Ev.bind (Ev.ret _) ?_);have h:=loopMap (ρ:=Ty) ks id (fun n=>eval_copyType_L0B n (eval_copyType n) ks) (fun n x=>eval_copyType n x)
  (fun n rec i s _=>by
   unfold eval_copyType_L0B;cases idx s i with
   |none=>rfl
   |some x=>simp only[qAb])
  (fun x hx=>ih x hx (QC hok.2 x hx))
 rw[qEg]at h;exact Ev.bind h (Ev.ret _)
theorem copyEnv_ev{env:Env}(h:aW env=true):Ev (fun n=>eval_copyEnv n env) env:=by
 obtain⟨hc8,hn64,_,_,_⟩:=iJ h;unfold eval_copyEnv slices_Clone_Carrier slices_Clip_Carrier slices_Clone_Decl slices_Clip_Decl;rw[qh (by simp only[qAA];omega) (by omega),qh (by simp only[qAA];omega) (by omega)];refine Ev.bind (Ev.ret _) (Ev.bind (Ev.ret _) (Ev.bind (Ev.ret _) (Ev.bind (Ev.ret _) ?_)));have h1:=loopMap (ρ:=Env) env.carriers id (fun n=>eval_copyEnv_L1B n env.carriers) (fun n x=>(slices_Clone_string n x.elems).bind fun x9=>(slices_Clip_string_s n x9).bind fun x10=>some (Carrier.mk x.name x10))
  (fun n rec i s _=>by
   unfold eval_copyEnv_L1B;cases idx s i with
   |none=>rfl
   |some x=>simp only[qAb,qAW])
  (fun x hx=>by
   have hx8:=(NJ h hx).2.1;unfold slices_Clone_string slices_Clip_string_s;rw[qh (by simp only[qAA];omega) (by omega)];refine Ev.bind (Ev.ret _) ?_;simp only[qAo];rw[clipS_ev (by omega)];exact Ev.ret _)
 have h2:=loopMap (ρ:=Env) env.names id (fun n=>eval_copyEnv_L0B n env.names) (fun n x=>(eval_copyType n x.ty).bind fun x6=>some (Decl.mk x.name x6))
  (fun n rec i s _=>by
   unfold eval_copyEnv_L0B;cases idx s i with
   |none=>rfl
   |some x=>simp only[qAb,qAW])
  (fun x hx=>Ev.bind (copyTypeE_ev x.ty (YE (Po h hx).2.1).1) (Ev.ret _))
 rw[qEg]at h1 h2;exact Ev.bind h1 (Ev.bind h2 (Ev.ret _))
theorem wld_fits{w:S_api_World}(h:gW w=true):∀v∈w.values,pY v:=fun v hv=>by
 obtain⟨h1,_,h3,h4⟩:=mR h;obtain⟨j,hj,rfl⟩:=qBy hv;have hd:j<w.env.names.length:=by omega
 exact Sb (UH (Po h1 (qAO hd)).2.1) _ (h4 (w.env.names[j],w.values[j]) (by rw[qBF];exact⟨j,by simp;omega,by simp⟩))
theorem copyWorld_ev{w:S_api_World}(h:gW w=true):Ev (fun n=>eval_copyWorld_p n w) (w.env,w.sizes,w.values):=by
 have hf:=wld_fits h;obtain⟨h1,h2,h3,h4⟩:=mR h;obtain⟨hc8,hn64,_,_,_⟩:=iJ h1;have hsz:=Dk h2;unfold eval_copyWorld_p slices_Clone_int slices_Clip_int_s yA;refine Ev.bind (copyEnv_ev h1) ?_;rw[qh (by simp only[qAA];omega) (by omega)];refine Ev.bind (Ev.ret _) ?_;simp only[qAo];rw[clipS_ev (by omega)];refine Ev.bind (Ev.ret _) ?_;have hl:=mG (ρ:=Env×(List Int)×(List Val)) w.values (fun n=>eval_copyWorld_p_L0B n w) (fun i s=>(i,s)) (fun x=>[x]) 1000 (by omega)
  (fun n rec s=>by unfold eval_copyWorld_p_L0B;rw[at_end];rfl)
  (fun pre x suf s e hb=>by
   obtain⟨N,hx⟩:=adp x (hf x (by rw[e];simp));refine⟨N,fun n hn rec=>?_⟩;have hx:uE n x=_:=hx n hn;unfold eval_copyWorld_p_L0B;rw[(bg e).1];simp only[cond_true,(bg e).2,qAb,hx];rw[dQ (by simpa using hb)];rfl) (s0:=[]) (by rw[flatMap_one];simp;omega)
 rw[flatMap_one,List.map_id',qAo]at hl;exact Ev.bind hl (Ev.bind (Ev.ret _) (Ev.ret _))
theorem turnN_ev(c:Str)(pm:List Int)(k n:Int)(s:Str):((((cond (k==3) (cond (s==c) (cond (decide (0≤n)) (some (decide (n<(pm.length:Int)))) (some false)) (some false)) (some false)):Option Bool).bind fun(s5:Bool)=>(cond s5 ((idx pm n).bind fun(x6:Int)=>some x6) (some n))):Option Int)=some (Gh c pm k n s):=by
 unfold Gh;cases k==3 with
 |false=>rfl
 |true=>
  cases s==c with
  |false=>rfl
  |true=>
   by_cases h0:0≤n
   ·rw[decide_eq_true h0];by_cases h1:n<(pm.length:Int)
    ·rw[decide_eq_true h1];obtain⟨x,hx⟩:∃x,idx pm n=some x:=by
      unfold idx;rw[if_pos h0];exact⟨_,qAc (by omega)⟩
     simp only[cond_true,qAb,qCz,hx,qAw]
    ·rw[decide_eq_false h1];rfl
   ·rw[decide_eq_false h0];rfl
inductive ShV:Val→Prop
 |mk {k n s ks} (h:ks.length≤1000) (r:∀v∈ks,ShV v):ShV (.mk k n s ks)
theorem good_short{env:Env}{sz:List Int}{t:Ty}(h:Good t):∀v,hasB env sz t v=true→ShV v:=by
 induction h with
 |int=>
  intro v hv;obtain⟨n,rfl,_⟩:=sG.1 hv;exact .mk (by simp) (by simp)
 |car nm=>
  intro v hv;obtain⟨n,rfl,_⟩:=aeo.1 hv;exact .mk (by simp) (by simp)
 |pair ha hb iha ihb=>
  intro v hv;obtain⟨x,y,rfl,h1,h2⟩:=qJ.1 hv;exact .mk (by simp) (by simp only[qAh,qCm,or_false];rintro v (rfl|rfl);exact iha _ h1;exact ihb _ h2)
 |set ha ih=>
  intro v hv;obtain⟨l,rfl,h1,h2⟩:=iV.1 hv;exact .mk (by have:=h1.2;omega) fun v hv=>ih v (h2 v hv)
theorem top_short{env:Env}{sz:List Int}{t:Ty}(h:Top t)(v:Val)(hv:hasB env sz t v=true):ShV v:=by
 rcases h with rfl|h
 ·obtain⟨b,rfl⟩:=Aa.1 hv;cases b<;>exact .mk (by simp) (by simp)
 ·exact good_short h v hv
theorem Turn_ev(c:Str)(pm:List Int)(v:Val)(hv:ShV v):Ev (fun n=>eval_Turn n v c pm) (iL c pm v):=by
 induction hv with
 |@mk k n s ks hl _ ih=>
  refine Ev.succ ?_;show Ev (fun m=>eval_Turn_body m (eval_Turn m) (.mk k n s ks) c pm) _;unfold eval_Turn_body;simp only[Val.kind,Val.n,Val.name];refine Ev.bind (a:=Gh c pm k n s) (Ev.of fun _=>turnN_ev c pm k n s) ?_;have h:=mG (ρ:=Val) ks (fun m=>eval_Turn_L0B m (eval_Turn m) (.mk k n s ks) c pm) (fun i t=>(t,i)) (fun x=>[iL c pm x]) 1000 (by omega)
   (fun n rec s=>by
    unfold eval_Turn_L0B;show cond (decide ((ks.length:Int)<(ks.length:Int))) _ _=_;rw[at_end];rfl)
   (fun pre x suf t e hb=>by
    obtain⟨N,hx⟩:=ih x (by rw[e];simp);refine⟨N,fun m hn rec=>?_⟩;have hx:eval_Turn m x c pm=_:=hx m hn;unfold eval_Turn_L0B;show cond (decide ((pre.length:Int)<(ks.length:Int))) ((idx ks (pre.length:Int)).bind _) _=_;rw[(bg e).1,(bg e).2];simp only[cond_true,qAb,hx];rw[dQ (by simpa using hb)];rfl) (s0:=[]) (by rw[flatMap_one];simpa using hl)
  rw[flatMap_one,qAo,←aiQ]at h;have hlen:(JZ c pm ks).length=ks.length:=by rw[aiQ,qAi]
  refine Ev.bind h ?_;show Ev (fun m=>((cond (k==5) ((kH m (JZ c pm ks)).bind fun(x2:List Val)=>some x2) (some (JZ c pm ks))):Option (List Val)).bind fun(s4:List Val)=>((slices_Clip_Value_s m s4).bind fun(x1:List Val)=>some (Val.mk k (Gh c pm k n s) s x1))) _;unfold iL slices_Clip_Value_s;refine Ev.bind (a:=cond (k==5) (sortV (JZ c pm ks)) (JZ c pm ks)) ?_ ?_
  ·cases k==5 with
   |false=>exact Ev.ret _
   |true=>
    refine Ev.bind (a:=sortV (JZ c pm ks)) (Ev.of fun m=>?_) (Ev.ret _);unfold kH;rw[dQ (by simp only[qAA];omega)];rfl
  ·have:(cond (k==5) (sortV (JZ c pm ks)) (JZ c pm ks)).length≤ks.length:=by
    have:=eP (JZ c pm ks);cases k==5<;>simp only[cond_true,cond_false]<;>omega
   rw[clipS_ev (by omega)];exact Ev.ret _
def wld0:S_api_World:=.mk (Env.mk [] []) [] []
def wEq9(e:Int):S_api_World×Int:=(wld0,e)
theorem badP_idx{m:Nat}{x:Int}{s:List Bool}(h:awm m x s=false):∃b,idx s x=some b:=⟨_,(aGz h).2.2⟩
theorem bad_ev{m:Nat}{x:Int}{s:List Bool}(hs:s.length=m):((cond (decide (x<0)) (some true) (cond (decide ((s.length:Int)≤x)) (some true) ((idx s x).bind fun(_:Bool)=>((idx s x).bind fun(x12:Bool)=>some x12)))):Option Bool)=some (awm m x s):=by
 subst hs;unfold awm;by_cases h0:x<0
 ·rw[decide_eq_true h0];rfl
 ·by_cases h1:(s.length:Int)≤x
  ·rw[decide_eq_false h0,decide_eq_true h1];rfl
  ·rw[decide_eq_false h0,decide_eq_false h1];have:∃b,idx s x=some b:=by
    unfold idx;rw[if_pos (by omega)];exact⟨_,qAc (by omega)⟩
   obtain⟨b,hb⟩:=this;rw[hb];rfl
theorem runL_chk{τ ρ:Type}(m:Nat)(fin:List Bool→τ)(r:ρ):∀(l:List Int) (s:List Bool),fG (fun x s=>cond (awm m x s) (.rt r) (.nx (upd s x true))) fin l s=(match chk m l s with|none=>.rt r|some s'=>.nx (fin s'))
 |[],_=>rfl
 |x::xs,s=>by
  simp only[fG,chk];cases awm m x s with
  |true=>rfl
  |false=>exact runL_chk m fin r xs _
theorem chk_len(m:Nat):∀(l:List Int) (s s':List Bool),chk m l s=some s'→s'.length=s.length
 |[],s,s',h=>by simp only[chk,Option.some.injEq]at h;rw[h]
 |x::xs,s,s',h=>by
  simp only[chk]at h;cases hb:awm m x s with
  |true=>rw[hb]at h;simp at h
  |false=>
   rw[hb]at h;have:=chk_len m xs _ s' h;rw[this];simp[upd]
theorem seen_ev(pm:List Int)(m:Nat):Ev (fun n=>eval_Permute_L1 n pm n (0,List.replicate m false)) (match chk m pm (List.replicate m false)with
 |none=>.rt (wEq9 12)
 |some s'=>.nx s'):=by
 rw[←runL_chk m (fun s=>s) (wEq9 12)];refine wI pm (fun n=>eval_Permute_L1B n pm) (fun i s=>(i,s)) _ (fun s=>s) (fun _ s=>s.length=m)
  (fun n rec s=>by unfold eval_Permute_L1B;rw[at_end];rfl)
  (fun pre x suf s e hs=>⟨⟨0,fun n _ rec=>?_⟩,fun s' h=>?_⟩) (by simp)
 ·unfold eval_Permute_L1B;rw[(bg e).1];simp only[cond_true,(bg e).2,qAb,bad_ev hs];cases hb:awm m x s with
  |true=>rfl
  |false=>
   obtain⟨b,hi⟩:=badP_idx hb;simp only[cond_false,hi,qAb]
 ·cases hb:awm m x s with
  |true=>rw[hb]at h;simp at h
  |false=>
   rw[hb]at h;simp only[cond_false,LR.nx.injEq]at h;rw[←h];simpa[upd]using hs
theorem fit2_get:∀(cs:List Carrier) (ss:List Int),J4 cs ss=true→∀(j:Nat) (c:Carrier) (s:Int),cs[j]? =some c→ss[j]? =some s→1≤s∧s≤8
 |[],_,_,_,_,_,hc,_=>by simp at hc
 |_::_,[],_,_,_,_,_,hs=>by simp at hs
 |c::cs,s::ss,h,0,c',s',hc,hs=>by
  simp only[qAG,Option.some.injEq]at hc hs;subst hc hs;simp only[J4,qAa,qAV]at h;have:=adi h.1;omega
 |c::cs,s::ss,h,j+1,c',s',hc,hs=>by
  simp only[qBp]at hc hs;simp only[J4,qAa]at h;exact fit2_get cs ss h.2 j c' s' hc hs
def cplc(w:S_api_World)(c:Str):Int:=dR (fun x=>x.name==c) 0 w.env.carriers
theorem cplc_at{w:S_api_World}(h:gW w=true)(c:Str)(hp:¬cplc w c<0):∃d,∃m:Nat,idx w.env.carriers (cplc w c)=some d∧d.name=c∧idx w.sizes (cplc w c)=some (m:Int)∧m≤8:=by
 obtain⟨h1,h2,h3,h4⟩:=mR h;have hsz:=Dk h2;rcases Dw (fun x:Carrier=>x.name==c) w.env.carriers []with⟨d,_,g2,g3,g4⟩|⟨_,g2⟩
 ·simp only[qAA,Int.natCast_zero,qAo]at g3 g4;have g4:idx w.env.carriers (cplc w c)=some d:=g4;have g3:0≤cplc w c:=g3;have hd:w.env.carriers[(cplc w c).toNat]? =some d:=by
   unfold idx at g4;rwa[if_pos g3]at g4
  have hlt:=(qAH.1 hd).1;have hv:w.sizes[(cplc w c).toNat]? =some w.sizes[(cplc w c).toNat]:=qAc (by omega);have hb:=fit2_get _ _ (awM h2) _ _ _ hd hv;refine⟨d,(w.sizes[(cplc w c).toNat]).toNat,g4,by simpa using g2,?_,by omega⟩;unfold idx;rw[if_pos g3,hv,Int.toNat_of_nonneg (by omega)]
 ·simp only[qAA,Int.natCast_zero]at g2;exact absurd (show cplc w c<0 by show dR _ 0 w.env.carriers<0;rw[g2];omega) hp
def permW(w:S_api_World)(c:Str)(pm:List Int):S_api_World×Int:=cond (!(gW w)) (wEq9 1) (cond (decide (cplc w c<0)) (wEq9 6) (match idx w.env.carriers (cplc w c),idx w.sizes (cplc w c)with
 |some d,some m=>cond (decide (0<(d.elems.length:Int))) (wEq9 31) (cond (!(aDq pm m.toNat)) (wEq9 12) (Af (iL c pm) w,0))
 |_,_=>wEq9 0))
theorem Permute_ev(w:S_api_World)(c:Str)(pm:List Int)(hs:FQ w.env):Ev (fun n=>eval_Permute n w c pm) (permW w c pm):=by
 unfold eval_Permute permW;refine Ev.bind (Zw w hs) ?_;cases h:gW w with
 |false=>exact Ev.ret _
 |true=>
  simp only[qAv,cond_false];refine Ev.bind (arx w.env c) ?_;show Ev (fun n=>cond (decide (cplc w c<0)) _ ((idx w.env.carriers (cplc w c)).bind _)) _;by_cases hp:cplc w c<0
  ·rw[decide_eq_true hp];exact Ev.ret _
  ·obtain⟨d,m,g1,_,g2,g3⟩:=cplc_at h c hp;rw[decide_eq_false hp,g1,g2];show Ev (fun n=>cond (decide (0<(d.elems.length:Int))) _ ((idx w.sizes (cplc w c)).bind _)) (cond (decide (0<(d.elems.length:Int))) (wEq9 31) (cond (!(aDq pm (m:Int).toNat)) (wEq9 12) (Af (iL c pm) w,(0:Int))));cases decide (0<(d.elems.length:Int))with
   |true=>exact Ev.ret _
   |false=>
    rw[g2,qBM];simp only[cond_false];refine Ev.bind (a:=(m:Int)) (Ev.ret _) ?_;unfold mkz;rw[if_pos ⟨by omega,by omega⟩,qBM];refine Ev.bind (Ev.ret _) (Ev.bind (seen_ev pm m) ?_);unfold aDq;cases hc:chk m pm (List.replicate m false)with
    |none=>
     simp only[qEf,qBP,qBb,cond_true];exact Ev.ret _
    |some s'=>
     have hl:=chk_len m pm _ _ hc;rw[qBv]at hl;simp only[LR.el,Option.isSome_some,qBH,hl,bne];cases(pm.length:Int)==(m:Int)with
     |false=>exact Ev.ret _
     |true=>
      simp only[qAv,cond_false];refine Ev.bind (copyWorld_ev h) ?_;have hm:=loopMap (ρ:=S_api_World×Int) w.values (iL c pm) (fun n=>eval_Permute_L0B n c pm (w.env,w.sizes,w.values)) (fun n x=>eval_Turn n x c pm)
       (fun n rec i s _=>by
        unfold eval_Permute_L0B;cases idx s i with
        |none=>rfl
        |some x=>simp only[qAb])
       (fun x hx=>Turn_ev c pm x (by
        obtain⟨h1,_,h3,h4⟩:=mR h;obtain⟨j,hj,rfl⟩:=qBy hx;have hd:j<w.env.names.length:=by omega
        exact top_short (UH (Po h1 (qAO hd)).2.1) _ (h4 (w.env.names[j],w.values[j]) (by rw[qBF];exact⟨j,by simp;omega,by simp⟩))))
      exact Ev.bind hm (Ev.ret _)
theorem law_EvalSymmetry(w:S_api_World)(t:Tm)(x:S_refinementlaw03_Turned)(hs:FQ w.env)(h1:iN t):Ev (fun n=>L3_EvalSymmetry n w t x) true:=by
 obtain⟨b1,hb1⟩:=Q7 w.env;obtain⟨b2,hb2⟩:=Dq t;unfold L3_EvalSymmetry;refine Ev.bind (a:=!(b1&&b2)) ?_ ?_
 ·refine Ev.bind hb1 ?_;cases b1 with
  |false=>exact Ev.ret _
  |true=>exact Ev.bind hb2 (Ev.ret _)
 cases(b1&&b2)with
 |false=>exact nL
 |true=>
  refine Ev.bind (Permute_ev w x.carrier x.perm hs) ?_;have fin:∀e:Int,e≠0→permW w x.carrier x.perm=wEq9 e→∀(F:Nat→Option Bool),Ev (fun n=>cond ((permW w x.carrier x.perm).2 !=0) (Option.bind (cond (((permW w x.carrier x.perm).1.values.length:Int)==0) ((jf n).bind fun x=>some x) (some false)) fun(s2:Bool)=>some s2) (F n)) true:=fun e he h F=>by
   rw[h,show((wEq9 e).2 !=0)=true by simpa[wEq9]using he];show Ev (fun n=>Option.bind ((jf n).bind fun x=>some x) fun(s2:Bool)=>some s2) true;exact Ev.bind nL (Ev.ret _)
  by_cases hw:gW w=true
  ·by_cases hp:cplc w x.carrier<0
   ·exact fin 6 (by decide) (by unfold permW;rw[hw,decide_eq_true hp];rfl) _
   ·obtain⟨d,m,g1,g0,g2,g3⟩:=cplc_at hw x.carrier hp;have hpw:permW w x.carrier x.perm=cond (decide (0<(d.elems.length:Int))) (wEq9 31) (cond (!(aDq x.perm m)) (wEq9 12) (Af (iL x.carrier x.perm) w,0)):=by
     unfold permW;rw[hw,decide_eq_false hp,g1,g2];rfl
    by_cases he:0<(d.elems.length:Int)
    ·exact fin 31 (by decide) (by rw[hpw,decide_eq_true he];rfl) _
    ·cases hb:aDq x.perm m with
     |false=>exact fin 12 (by decide) (by rw[hpw,decide_eq_false he,hb];rfl) _
     |true=>
      have hpw:permW w x.carrier x.perm=(Af (iL x.carrier x.perm) w,0):=by rw[hpw,decide_eq_false he,hb];rfl
      rw[hpw];obtain⟨v1,v2,v3,v4⟩:=mR hw;have hz:He w.env w.sizes x.carrier=m:=by
       unfold He;rw[show idx w.sizes (dR (fun c=>c.name==x.carrier) 0 w.env.carriers)=some (m:Int)from g2];rfl
      have hc:∀c∈w.env.carriers,c.name=x.carrier→c.elems=[]:=fun c hcm hn=>by
       have hnd:=anT v1;have hd:d∈w.env.carriers:=by
        unfold idx at g1;split at g1
        ·exact qAF g1
        ·cases g1
       have:c=d:=by
        obtain⟨i,hi,rfl⟩:=qBy hcm;obtain⟨j,hj,rfl⟩:=qBy hd;have:=(List.getElem_inj (i:=i) (j:=j) (h₀:=by simpa using hi) (h₁:=by simpa using hj) hnd).1 (by simp[hn,g0]);subst this;rfl
       subst this;exact qAD.1 (by omega)
      have hev:=aKa hw (aLS hb) hz hc t;refine Ev.bind (H7 w t hs h1) (Ev.bind (H7 (Af (iL x.carrier x.perm) w) t hs h1) ?_);rcases hev with h|h|⟨h,h0⟩
      ·refine Ev.bind (a:=true) ?_ nL;rw[h];exact Ev.ret _
      ·refine Ev.bind (a:=true) ?_ nL;rw[h];cases(ig w t).2==11<;>exact Ev.ret _
      ·cases h11:(ig w t).2==11 with
       |true=>exact nL
       |false=>
        rw[←h,h11];refine Ev.bind (a:=false) (Ev.ret _) ?_;refine Ev.bind (a:=true) ?_ (Ev.ret _);show Ev (fun n=>cond ((ig w t).2==(ig w t).2) _ _) true;rw[beq_self_eq_true];cases hz0:(ig w t).2 !=0 with
        |true=>exact nL
        |false=>
         have hz0:(ig w t).2=0:=by simpa using hz0
         obtain⟨ty,v,q⟩:=Iq hz0;have hv:=q.has;refine Ev.bind (Turn_ev _ _ _ (by rw[q.hx];exact top_short q.hp v hv)) (Ev.bind (Iu _ _) ?_);rw[(zo _ _).2 (h0 hz0)];exact nL
  ·exact fin 1 (by decide) (by unfold permW;rw[qDp]at hw;rw[hw];rfl) _
end
end Abs
end Go.Proofs.YthgdaonechbgmaaGreat

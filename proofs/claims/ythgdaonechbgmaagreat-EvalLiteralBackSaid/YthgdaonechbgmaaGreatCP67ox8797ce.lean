/-
  The law EvalLiteralBack of plain data. Conditions: names are no longer than a string may be; lemmas without a program.
-/
import Derived.Test.YthgdaonechbgmaaGreatCW8oxcc56d8
set_option linter.all false
namespace Go.Proofs.YthgdaonechbgmaaGreat
namespace Abs
open Go
theorem known2_ev(env:Env)(t:Ty):Ev (fun n=>Px n env t) (bA t&&knows env t):=by
 unfold Px;cases hv:bA t with
 |false=>
  refine Ev.bind (a:=false) ?_ (Ev.ret _);exact Ev.bind ((tK t).eq hv) (Ev.ret _)
 |true=>
  refine Ev.bind (a:=knows env t) ?_ (Ev.ret _);refine Ev.bind ((tK t).eq hv) ?_;refine Ev.bind (CK hv) ?_;generalize hl:((gI ((dX t).map fun s=>(s,true)) []).map (·.1)).mergeSort leS=l;have hm:∀s,s∈l↔s∈dX t:=fun s=>by rw[←hl];exact RQ t s
  unfold qj tL;have hf:=vo l (fun n k i=>yO n l env.carriers env.names k i) (fun n x=>Jb n x env.carriers env.names) (fun s=>!(dP env s)) (fun n k i=>rfl) (fun x _=>by
   unfold Jb;refine Ev.bind (arx env x) ?_;rw[anU,mO _ _ _ (qBD _)];exact Ev.ret _)
  have e:knows env t=!(l.any fun s=>!(dP env s)):=by
   rw[qm,qCk,qCe,qAP];show(dX t).all (dP env)=true↔_;rw[qAP];exact⟨fun h s hs=>h s ((hm s).1 hs),fun h s hs=>h s ((hm s).2 hs)⟩
  refine Ev.bind (a:=l.any fun s=>!(dP env s)) (Ev.bind hf ?_) ?_
  ·rw[mO _ _ _ (qBD _)];exact Ev.ret _
  ·rw[e];exact Ev.ret _
theorem wide_ev(env:Env)(hl:env.carriers.length≤8):Ev (fun n=>eval_wide n env) (aM8 env):=by
 have h1:=ajV (ρ:=List Int) env.carriers (fun n=>eval_wide_L0B n env) (fun i s=>(s,i)) (fun s=>s) (fun c=>[cond (decide (0<(c.elems.length:Int))) (c.elems.length:Int) 8]) 1000 (fun n rec s=>by unfold eval_wide_L0B;rw[at_end];rfl) (fun pre x suf s e hb=>⟨0,fun n hn rec=>by
  unfold eval_wide_L0B;rw[(bg e).1];simp only[cond_true,(bg e).2,qAb];have hb:s.length+1≤1000:=hb;rw[qh (by simp only[qAI];omega) (by omega),qh (by simp only[qAI];omega) (by omega)];cases decide (0<(x.elems.length:Int))<;>rfl⟩) (s0:=[]) (by rw[flatMap_one];simp;omega)
 rw[flatMap_one,qAo]at h1;unfold eval_wide;exact Ev.bind h1 (Ev.ret _)
def pzT:RR Tm→PZ Tm Unit
 | .ok t=>.ok t
 | .er e=>.er e ()
theorem runL_lit(env:Env)(a:Ty):∀(vs:List Val) (acc:List Tm),fG (fun x acc=>match ax9 env x a with| .ok t=>(.nx (acc++[t]):LR (List Tm) (PZ Tm Unit))| .er e=>.rt (.er e ())) (fun s=>s) vs acc=match atd env vs a with| .ok l=>.nx (acc++l)| .er e=>.rt (.er e ())
 |[],acc=>by simp[fG,atd]
 |v::vs,acc=>by
  simp only[fG,atd];cases ax9 env v a with
  |er e=>rfl
  |ok t=>
   simp only;rw[runL_lit env a vs (acc++[t])];show _=match((atd env vs a).thn fun l=>.ok (t::l))with| .ok l=>_| .er e=>_
   cases atd env vs a with
   |er e=>rfl
   |ok l=>simp[RR.thn]
theorem lit_ev{env:Env}(hv:aW env=true){ty:Ty}(hg:Good ty):∀v,hasB env (aM8 env) ty v=true→bA ty=true→knows env ty=true→Ev (fun n=>eval_literal n env v ty) (pzT (ax9 env v ty)):=by
 induction hg with
 |int=>
  intro v h _ _;obtain⟨n,rfl,hn⟩:=sG.1 h;have hn: -1000000000≤n∧n≤1000000000:=hn;refine Ev.succ (Ev.of fun k=>?_);show eval_literal_body k _ env (.mk 1 n [] []) fE=some (.ok (ar7 n));unfold eval_literal_body ar7;simp only[Val.kind,Val.n,show((1:Int)==1)=true from rfl,cond_true];have e:IntKind.wrap .i64 (0 - n)= -n:=by
   rw[wrap64 (by omega) (by omega)];omega
  rw[e];by_cases h0:n<0<;>simp only[h0,decide_true,decide_false,cond_true,cond_false]<;>rfl
 |car nm=>
  intro v h _ hk;obtain⟨n,rfl,h0,h1⟩:=aeo.1 h;refine Ev.succ ?_;show Ev (fun k=>eval_literal_body k (eval_literal k) env (.mk 3 n nm []) (nD nm)) (pzT (aBS env nm n));unfold eval_literal_body;simp only[Val.kind,Val.n,Val.name,show((3:Int)==1)=false from rfl,show((3:Int)==3)=true from rfl,cond_true,cond_false];refine Ev.bind (arx env nm) ?_;have hc:dP env nm=true:=by
   have:=qAP.1 (show(dX (nD nm)).all (dP env)=true from hk) nm (by simp[dX,nD]);exact this
  obtain⟨d,hi⟩:∃d,idx env.carriers (dR (fun c=>c.name==nm) 0 env.carriers)=some d:=by
   rcases Dw (fun c:Carrier=>c.name==nm) env.carriers []with⟨x,_,_,_,h2⟩|⟨h2,_⟩
   ·exact⟨x,h2⟩
   ·exfalso;obtain⟨c,hc1,hc2⟩:=qCB.1 (show env.carriers.any (fun c=>c.name==nm)=true from hc);exact qCW.1 h2 c hc1 hc2
  rw[hi];simp only[qAb];unfold aBS;rw[hi];simp only;cases hz:((d.elems.length:Int)==0)with
  |true=>exact Ev.ret _
  |false=>
   have hs:He env (aM8 env) nm=(d.elems.length:Int):=by
    unfold He aM8;unfold idx at hi⊢;split at hi
    ·rename_i h2;rw[if_pos h2,qAE,hi];have:0<(d.elems.length:Int):=by
      have:=(beq_eq_false_iff_ne.1 hz);omega
     show cond (decide (0<(d.elems.length:Int))) (d.elems.length:Int) 8=_;rw[decide_eq_true this];rfl
    ·cases hi
   have h1:n<(d.elems.length:Int):=by rw[←hs];exact h1
   obtain⟨e,he⟩:∃e,idx d.elems n=some e:=by
    unfold idx;rw[if_pos h0];exact⟨_,qAc (by omega)⟩
   rw[he];exact Ev.ret _
 |pair ha hb iha ihb=>
  intro v h hvt hk;obtain⟨x,y,rfl,h1,h2⟩:=qJ.1 h;rename_i a b;rw[adI,qAa]at hk;obtain⟨va,vb⟩:=awl hvt;have i1:=iha x h1 va hk.1;have i2:=ihb y h2 vb hk.2;refine Ev.succ ?_;show Ev (fun k=>eval_literal_body k (eval_literal k) env (.mk 4 0 [] [x,y]) (aR a b)) (pzT ((aw7 env [x,y] [a,b]).thn fun l=>.ok (.mk 27 [] 0 G6 l)));unfold eval_literal_body;simp only[Val.kind,Val.kids,show((4:Int)==1)=false from rfl,show((4:Int)==3)=false from rfl,show((4:Int)==4)=true from rfl,cond_true,cond_false];refine Ev.bind (a:=x) (Ev.ret _) (Ev.bind (a:=a) (Ev.ret _) (Ev.bind i1 ?_));simp only[aw7];show Ev _ (pzT (((ax9 env x a).thn fun t=>((ax9 env y b).thn fun u=>.ok [u]).thn fun l=>.ok (t::l)).thn fun l=>.ok (.mk 27 [] 0 G6 l)));cases ax9 env x a with
  |er e=>exact Ev.ret _
  |ok t=>
   show Ev (fun k=>(some y).bind fun x7=>(some b).bind fun x8=>(eval_literal k env x7 x8).bind _) _;refine Ev.bind (a:=y) (Ev.ret _) ?_;refine Ev.bind (a:=b) (Ev.ret _) ?_;refine Ev.bind i2 ?_;cases ax9 env y b with
   |er e=>exact Ev.ret _
   |ok u=>exact Ev.ret _
 |set ha ih=>
  intro v h hvt hk;rename_i a;have hl:=h;obtain⟨l,rfl,h1,h2⟩:=iV.1 h;rw[Wx]at hk;have va:=az1 hvt;have hlen:l.length≤256:=by
   have hl:(((5:Int)==5&&((0:Int)==0&&(([]:Str)==[]&&!(decide (256<(l.length:Int))))))&&(awR env (aM8 env) [a] l&&Fp l))=true:=hl;simp only[qAa,qAV,decide_eq_false_iff_not]at hl;omega
  refine Ev.succ ?_;show Ev (fun k=>eval_literal_body k (eval_literal k) env (.mk 5 0 [] l) (au a)) (pzT (cond ((l.length:Int)==0) (.ok (.mk 29 [] 0 a [])) ((atd env l a).thn fun m=>.ok (.mk 28 [] 0 G6 m))));unfold eval_literal_body;simp only[Val.kind,Val.kids,show((5:Int)==1)=false from rfl,show((5:Int)==3)=false from rfl,show((5:Int)==4)=false from rfl,cond_false];cases hz:((l.length:Int)==0)with
  |true=>
   simp only[cond_true];exact Ev.bind (a:=a) (Ev.ret _) (Ev.bind (copyTypeE_ev a (YE va).1) (Ev.ret _))
  |false=>
   simp only[cond_false];have h3:=wI l (fun n=>eval_literal_L0B n (eval_literal n) env (.mk 5 0 [] l) (au a)) (fun i s=>(i,s))
    (fun x acc=>match ax9 env x a with| .ok t=>(.nx (acc++[t]):LR (List Tm) (PZ Tm Unit))| .er e=>.rt (.er e ())) (fun s=>s) (fun suf acc=>acc.length+suf.length≤256∧∀u∈suf,hasB env (aM8 env) a u=true)
    (fun n rec s=>by unfold eval_literal_L0B;rw[show(Val.mk 5 0 ([]:Str) l).kids=l from rfl,at_end];rfl)
    (fun pre x suf s e hI=>⟨by
     obtain⟨N,hN⟩:=ih x (hI.2 x (by simp)) va hk;refine⟨N,fun n hn rec=>?_⟩;unfold eval_literal_L0B;rw[show(Val.mk 5 0 ([]:Str) l).kids=l from rfl,(bg e).1];simp only[cond_true,(bg e).2,qAb];show((eval_literal n env x a).bind _)=_;rw[show eval_literal n env x a=some _ from hN n hn];cases ax9 env x a with
     |er e=>rfl
     |ok t=>
      have:=hI.1;simp only[qAp]at this;show(app 104 s [t]).bind _=_;rw[qh (by simp only[qAI];omega) (by omega)];rfl,fun s' hs=>by
     cases hx:ax9 env x a with
     |er e=>rw[hx]at hs;cases hs
     |ok t=>
      rw[hx]at hs;cases hs;refine⟨?_,fun u hu=>hI.2 u (by simp[hu])⟩;have:=hI.1;simp only[qAp]at this;simp only[qAe,qAI];omega⟩) (s0:=[]) ⟨by simpa using hlen,h2⟩
   rw[runL_lit]at h3;refine Ev.bind h3 ?_;cases hA:atd env l a with
   |er e=>exact Ev.ret _
   |ok m=>
    show Ev (fun k=>(slices_Clip_Term_s k ([]++m)).bind _) _;have hm:=(awd l m hA).1;unfold slices_Clip_Term_s clipS;rw[qAo,show Nat.ble m.length 140737488355328=true from qCI (by omega)];exact Ev.ret _
def tmZ0:Tm:=Tm.mk 0 ([]:Str) 0 (Ty.mk 0 ([]:Str) []) []
def litE2(env:Env)(v:Val)(ty:Ty):Tm×Int:=cond (aW env&&(bA ty&&knows env ty)) (cond (v.kind==2) (tmZ0,7) (cond (hasB env (aM8 env) ty v) (match ax9 env v ty with
 | .ok t=>cond (cO t) (t,0) (tmZ0,5)
 | .er e=>(tmZ0,e)) (tmZ0,7))) (tmZ0,1)
theorem lit_short{env:Env}(hv:aW env=true){ty:Ty}(hg:Good ty):∀v t,hasB env (aM8 env) ty v=true→ax9 env v ty=.ok t→iN t:=by
 induction hg with
 |int=>
  intro v t h hl;obtain⟨n,rfl,_⟩:=sG.1 h;have hl:(.ok (ar7 n):RR Tm)=.ok t:=hl;cases hl;unfold ar7;cases decide (n<0)<;>simp[iN,Oh]
 |car nm=>
  intro v t h hl;obtain⟨n,rfl,h0,h1⟩:=aeo.1 h;have hl:aBS env nm n=.ok t:=hl;unfold aBS at hl;cases hi:idx env.carriers (dR (fun c=>c.name==nm) 0 env.carriers)with
  |none=>rw[hi]at hl;cases hl
  |some d=>
   rw[hi]at hl;have hq:cond ((d.elems.length:Int)==0) (.er 23) (match idx d.elems n with|some e=>.ok (.mk 20 e 0 G6 [])|none=>.er 0)=(.ok t:RR Tm):=hl
   obtain⟨hd,_⟩:=aH2 hi;cases hz:((d.elems.length:Int)==0)with
   |true=>rw[hz]at hq;cases hq
   |false=>
    rw[hz]at hq;cases he:idx d.elems n with
    |none=>rw[he]at hq;cases hq
    |some e=>
     rw[he]at hq;cases hq;unfold idx at he;rw[if_pos h0]at he;have hm:=qAF he;have hid:=qAP.1 (NJ hv hd).2.2 e hm;have:e.length≤16:=by
      cases e with
      |nil=>simp
      |cons c cs=>
       simp only[ident,qAa,decide_eq_true_eq]at hid;simp only[qAp];omega
     exact⟨by omega,trivial⟩
 |pair ha hb iha ihb=>
  intro v t h hl;obtain⟨x,y,rfl,h1,h2⟩:=qJ.1 h;rename_i a b;have hl:((aw7 env [x,y] [a,b]).thn fun l=>.ok (.mk 27 [] 0 G6 l))=.ok t:=hl;obtain⟨l,hl,e⟩:=Zq hl;simp only[aw7]at hl;obtain⟨tx,q1,hl⟩:=Zq hl;obtain⟨l2,hl2,hl⟩:=Zq hl;obtain⟨ty',q2,hl2⟩:=Zq hl2;cases hl2;cases hl;cases e;exact⟨by simp,iha x tx h1 q1,ihb y ty' h2 q2,trivial⟩
 |set ha ih=>
  intro v t h hl;rename_i a;obtain⟨l,rfl,h1,h2⟩:=iV.1 h;have hl:cond ((l.length:Int)==0) (.ok (.mk 29 [] 0 a [])) ((atd env l a).thn fun m=>.ok (.mk 28 [] 0 G6 m))=.ok t:=hl;cases hz:((l.length:Int)==0)with
  |true=>
   rw[hz]at hl;cases hl;exact⟨by simp,trivial⟩
  |false=>
   rw[hz]at hl;obtain⟨m,hm,e⟩:=Zq hl;cases e;refine⟨by simp,?_⟩;obtain⟨k1,k2⟩:=awd l m hm;have:∀(m:List Tm),(∀x∈m,iN x)→Oh m:=fun m=>by
    induction m with
    |nil=>intro _;trivial
    |cons x m ih=>intro h;exact⟨h x (by simp),ih fun y hy=>h y (by simp[hy])⟩
   refine this m fun x hx=>?_;obtain⟨i,hi,rfl⟩:=qBy hx;have hp:(l[i]'(by omega),m[i])∈l.zip m:=by
    rw[qBF];exact⟨i,by simp;omega,by simp⟩
   exact ih _ _ (h2 _ (qAO _)) (k2 _ hp)
theorem lit_err{env:Env}:∀(e:Int) (ty:Ty) (v:Val),Good ty→hasB env (aM8 env) ty v=true→knows env ty=true→ax9 env v ty=.er e→e=23:=fun e ty v hg=>by
 induction hg generalizing v e with
 |int=>
  intro h _ hl;obtain⟨n,rfl,_⟩:=sG.1 h;cases hl
 |car nm=>
  intro h hk hl;obtain⟨n,rfl,h0,h1⟩:=aeo.1 h;have hl:aBS env nm n=.er e:=hl;unfold aBS at hl;have hc:dP env nm=true:=qAP.1 (show(dX (nD nm)).all (dP env)=true from hk) nm (by simp[dX,nD]);obtain⟨d,hi⟩:∃d,idx env.carriers (dR (fun c=>c.name==nm) 0 env.carriers)=some d:=by
   rcases Dw (fun c:Carrier=>c.name==nm) env.carriers []with⟨x,_,_,_,h2⟩|⟨h2,_⟩
   ·exact⟨x,h2⟩
   ·exfalso;obtain⟨c,hc1,hc2⟩:=qCB.1 (show env.carriers.any (fun c=>c.name==nm)=true from hc);exact qCW.1 h2 c hc1 hc2
  rw[hi]at hl;have hq:cond ((d.elems.length:Int)==0) (.er 23) (match idx d.elems n with|some e=>.ok (.mk 20 e 0 G6 [])|none=>.er 0)=(.er e:RR Tm):=hl
  cases hz:((d.elems.length:Int)==0)with
  |true=>rw[hz]at hq;cases hq;rfl
  |false=>
   rw[hz]at hq;have hs:He env (aM8 env) nm=(d.elems.length:Int):=by
    unfold He aM8;unfold idx at hi⊢;split at hi
    ·rename_i h2;rw[if_pos h2,qAE,hi];have:0<(d.elems.length:Int):=by
      have:=(beq_eq_false_iff_ne.1 hz);omega
     show cond (decide (0<(d.elems.length:Int))) (d.elems.length:Int) 8=_;rw[decide_eq_true this];rfl
    ·cases hi
   have h1:n<(d.elems.length:Int):=by rw[←hs];exact h1
   obtain⟨x,he⟩:∃e,idx d.elems n=some e:=by
    unfold idx;rw[if_pos h0];exact⟨_,qAc (by omega)⟩
   rw[he]at hq;cases hq
 |pair ha hb iha ihb=>
  intro h hk hl;obtain⟨x,y,rfl,h1,h2⟩:=qJ.1 h;rename_i a b;rw[adI,qAa]at hk;have hl:(((ax9 env x a).thn fun t=>((ax9 env y b).thn fun u=>.ok [u]).thn fun l=>.ok (t::l)).thn fun l=>(.ok (.mk 27 [] 0 G6 l):RR Tm))=.er e:=hl;cases hx:ax9 env x a with
  |er e1=>rw[hx]at hl;cases hl;exact iha _ x h1 hk.1 hx
  |ok t=>
   rw[hx]at hl;cases hy:ax9 env y b with
   |er e1=>rw[hy]at hl;cases hl;exact ihb _ y h2 hk.2 hy
   |ok u=>rw[hy]at hl;cases hl
 |set ha ih=>
  intro h hk hl;rename_i a;obtain⟨l,rfl,h1,h2⟩:=iV.1 h;rw[Wx]at hk;have hl:(cond ((l.length:Int)==0) (.ok (.mk 29 [] 0 a [])) ((atd env l a).thn fun m=>.ok (.mk 28 [] 0 G6 m)):RR Tm)=.er e:=hl;have key:∀(vs:List Val),(∀v∈vs,hasB env (aM8 env) a v=true)→∀e,atd env vs a=.er e→e=23:=fun vs=>by
   induction vs with
   |nil=>intro _ e h;cases h
   |cons v vs ihv=>
    intro hv e h;simp only[atd]at h;cases hx:ax9 env v a with
    |er e1=>rw[hx]at h;cases h;exact ih _ v (hv v (by simp)) hk hx
    |ok t=>
     rw[hx]at h;have h:((atd env vs a).thn fun l=>(.ok (t::l):RR (List Tm)))=.er e:=h;cases hA:atd env vs a with
     |er e1=>rw[hA]at h;cases h;exact ihv (fun v h=>hv v (by simp[h])) _ hA
     |ok m=>rw[hA]at h;cases h
  cases hz:((l.length:Int)==0)with
  |true=>rw[hz]at hl;cases hl
  |false=>
   rw[hz]at hl;cases hA:atd env l a with
   |er e1=>rw[hA]at hl;cases hl;exact key l h2 _ hA
   |ok m=>rw[hA]at hl;cases hl
theorem Literal_ev(env:Env)(v:Val)(ty:Ty)(hs:FQ env):Ev (fun n=>eval_Literal n env v ty) (litE2 env v ty):=by
 unfold eval_Literal litE2;cases hv:aW env with
 |false=>
  refine Ev.bind (a:=true) (Ev.bind ((C8 env hs).eq hv) (Ev.ret _)) (Ev.ret _)
 |true=>
  refine Ev.bind (a:=!(bA ty&&knows env ty)) (Ev.bind ((C8 env hs).eq hv) (Ev.bind (known2_ev env ty) (Ev.ret _))) ?_;cases hk:(bA ty&&knows env ty)with
  |false=>exact Ev.ret _
  |true=>
   rw[qAa]at hk;have hw:=wide_ev env (iJ hv).1;have hh:=ayM env (aM8 env) (by unfold aM8;rw[qAi]) (PY hk.1) hk.2 v;cases h2:(v.kind==2)with
   |true=>
    simp only[cond_true,qAb,qAv,cond_false];exact Ev.ret _
   |false=>
    refine Ev.bind (a:=!(hasB env (aM8 env) ty v)) (Ev.bind hw (Ev.bind hh (Ev.ret _))) ?_;cases hb:hasB env (aM8 env) ty v with
    |false=>exact Ev.ret _
    |true=>
     have hg:Good ty:=by
      rcases UH hk.1 with rfl|h
      ·have:abw v=true:=hb;simp only[abw,qAa]at this;rw[this.1]at h2;cases h2
      ·exact h
     refine Ev.bind (lit_ev hv hg v hb hk.1 hk.2) ?_;cases hl:ax9 env v ty with
     |er e=>
      have:=lit_err e ty v hg hb hk.2 hl;subst this;exact Ev.ret _
     |ok t=>
      refine Ev.bind (OB t (lit_short hv hg v t hb hl)) ?_;show Ev (fun n=>cond (!(cO t)) (some (tmZ0,5)) (some (t,0))) (cond (cO t) (t,0) (tmZ0,5));cases cO t<;>exact Ev.ret _
theorem law_EvalLiteralBack(w:S_api_World)(v:Val)(ty:Ty)(hs:FQ w.env)(hV:∀v∈w.values,gU v):Ev (fun n=>L3_EvalLiteralBack n w v ty) true:=by
 obtain⟨b1,hb1⟩:=Q7 w.env;unfold L3_EvalLiteralBack;refine Ev.bind (a:=!(b1&&gW w)) ?_ ?_
 ·refine Ev.bind hb1 ?_;cases b1 with
  |false=>exact Ev.ret _
  |true=>exact Ev.bind (XL w hV) (Ev.ret _)
 cases hq:(b1&&gW w)with
 |false=>exact nL
 |true=>
  rw[qAa]at hq;obtain⟨hv,_,_,_⟩:=mR hq.2;refine Ev.bind (Literal_ev w.env v ty hs) ?_;have bad:∀e:Int,(e !=0)=true→Ev (fun n=>cond ((tmZ0,e).2 !=0) ((cond ((tmZ0,e).1.op==0) ((jf n).bind fun x3=>some x3) (some false):Option Bool).bind fun s2=>some s2) ((mU n w (tmZ0,e).1).bind fun x4=>((cond (x4.2==0) ((dB n x4.1 v).bind fun x5=>cond x5 ((jf n).bind fun x6=>some x6) (some false)) (some false):Option Bool).bind fun s3=>some s3))) true:=fun e he=>by
   simp only[he,cond_true];exact Ev.bind nL (Ev.ret _)
  have fin:∀t,bX w.env [] t=.ok ty→aj (aI w) t []=.ok v→cO t=true→iN t→Ev (fun n=>cond ((t,(0:Int)).2 !=0) ((cond ((t,(0:Int)).1.op==0) ((jf n).bind fun x3=>some x3) (some false):Option Bool).bind fun s2=>some s2) ((mU n w (t,(0:Int)).1).bind fun x4=>((cond (x4.2==0) ((dB n x4.1 v).bind fun x5=>cond x5 ((jf n).bind fun x6=>some x6) (some false)) (some false):Option Bool).bind fun s3=>some s3))) true:=fun t h1 h2 h3 h4=>by
   simp only[show((0:Int)!=0)=false from rfl,cond_false];have e:ig w t=(v,0):=by
    unfold ig bT l9;rw[hq.2,h3,hv,h1,h2];rfl
   refine Ev.bind ((H7 w t hs h4).eq e) ?_;refine Ev.bind (a:=true) (Ev.bind ((Iu v v).eq ((zo v v).2 rfl)) nL) (Ev.ret _)
  unfold litE2;cases aW w.env with
  |false=>exact bad 1 rfl
  |true=>
   cases hk:(bA ty&&knows w.env ty)with
   |false=>exact bad 1 rfl
   |true=>
    rw[qAa]at hk;cases h2:(v.kind==2)with
    |true=>exact bad 7 rfl
    |false=>
     cases hb:hasB w.env (aM8 w.env) ty v with
     |false=>exact bad 7 rfl
     |true=>
      have hg:Good ty:=by
       rcases UH hk.1 with rfl|h
       ·have:abw v=true:=hb;simp only[abw,qAa]at this;rw[this.1]at h2;cases h2
       ·exact h
      simp only[cond_true,cond_false];cases hl:ax9 w.env v ty with
      |er e=>
       have:=lit_err e ty v hg hb hk.2 hl;subst this;exact bad 23 rfl
      |ok t=>
       obtain⟨r1,r2⟩:=aMj hq.2 hg v t hb hk.1 hk.2 hl;dsimp only;cases hm:cO t with
       |false=>exact bad 5 rfl
       |true=>exact fin t r1 r2 hm (lit_short hv hg v t hb hl)
end Abs
end Go.Proofs.YthgdaonechbgmaaGreat

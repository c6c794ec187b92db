/-
  The evaluator comes to the plain value of each term that has a type. Conditions: names have values of their types; lemmas without a program.
-/
import Derived.Test.YthgdaonechbgmaaGreatCP52ox83f784
set_option linter.all false
namespace Go.Proofs.YthgdaonechbgmaaGreat
namespace Abs
section
open Go
section
variable {cs:List Carrier}{ds:List Decl}{sz:List Int}{m:List (Str×Val)}{g:Str→Val}
theorem ar0{env:Env}{sc:List Decl}{bs:List Bound}(h:Scp env sz sc bs)(s:Str)(hb:bs.find? (fun b=>b.name==s)=none):sc.find? (fun d=>d.name==s)=none:=by
 induction h with
 |nil=>rfl
 |cons h k ih=>
  grind
def LkE(env:Env)(cs:List Carrier)(ds:List Decl)(sz:List Int)(m:List (Str×Val))(g:Str→Val):Prop:=∀s t,look env s=some t→∀b,Ev (fun n=>adY n cs ds sz m b s) (.ok (g s))
theorem azl{env:Env}(hk:LkE env cs ds sz m g){sc:List Decl}{bs:List Bound}(h:Scp env sz sc bs){s:Str}{t:Ty}(ht:nJ env sc s=some t):Ev (fun n=>nY n cs ds sz m bs.reverse s) (pz (.ok (Ml g bs s))):=by
 unfold nY Ml;rw[List.reverse_reverse];cases hb:bs.find? (fun b=>b.name==s)with
 |some b=>exact Ev.ret _
 |none=>
  unfold nJ at ht;rw[ar0 h s hb]at ht;exact hk s t ht _
theorem lT{t:Tm}{bs:List Bound}(h:dV (vb bs.reverse) (fun n=>sI n (bJ n) (bK n) (bI n) (dw n) (dJ n) (aM n) (dD n) cs ds sz m bs.reverse t) bs.reverse (aj g t bs)):nK cs ds sz m g t bs:=dV.succ h
def xw(op:Int):Bool:=op==3 ||(op==7 ||(decide (10≤op)&&decide (op≤15) ||(decide (21≤op)&&decide (op≤27) ||decide (30≤op)&&decide (op≤54))))
theorem aqZ(n:Nat){r1 r2 r3 r4 r5 r6 r7}{op:Int}{nm:Str}{k:Int}{u:Ty}{ks:List Tm}{b:List Bound}(h:xw op=true):
  sI n r1 r2 r3 r4 r5 r6 r7 cs ds sz m b (.mk op nm k u ks)=(Kn n r1 r2 r3 r4 r5 r6 r7 cs ds sz m (.mk op nm k u ks) n (0,0,0,([]:Str),([]:List Val),0,0,([]:Str),([]:List Val),b)).bind (asw op n):=by
 unfold xw at h;simp at h;have e:∀c:Int,(c=1∨c=2∨c=19∨c=20∨c=29∨c=4∨c=5∨c=6∨c=8∨c=9∨c=55∨c=56∨c=16∨c=17∨c=18∨c=28)→(op==c)=false:=fun c hc=>by
  rw[beq_eq_false_iff_ne];omega
 unfold sI;simp only[Tm.op,e 1 (by omega),e 2 (by omega),e 19 (by omega),e 20 (by omega),e 29 (by omega),e 4 (by omega),e 5 (by omega),e 6 (by omega),e 8 (by omega),e 9 (by omega),e 55 (by omega),e 56 (by omega),e 16 (by omega),e 17 (by omega),e 18 (by omega),e 28 (by omega),cond_false,qAb]
theorem adW{op:Int}{nm:Str}{k:Int}{ks:List Kd}{bs:List Bound}(h:xw op=true):Za g op nm k ks bs=(aN (ks.map fun k=>k.f bs)).thn (bB op):=by
 unfold xw at h;simp at h;have e:∀c:Int,(c=1∨c=2∨c=19∨c=20∨c=29∨c=4∨c=5∨c=6∨c=8∨c=9∨c=55∨c=56∨c=16∨c=17∨c=18∨c=28)→(op==c)=false:=fun c hc=>by
  rw[beq_eq_false_iff_ne];omega
 unfold Za bY
 grind
theorem app1{op:Int}{nm:Str}{k:Int}{u:Ty}{x:Tm}{bs:List Bound}(h:xw op=true)(hx:nK cs ds sz m g x bs)(hA:∀a,aj g x bs=.ok a→Ev (fun n=>oz n op a v0) (pz (CG op a v0))):nK cs ds sz m g (.mk op nm k u [x]) bs:=by
 have h28:(op==28)=false:=by
  unfold xw at h
  grind
 refine lT ?_;rw[bG,adW h];simp only[aqZ _ h];exact aGd h28 hx hA
theorem Fq{op:Int}{nm:Str}{k:Int}{u:Ty}{x y:Tm}{bs:List Bound}(h:xw op=true)(hx:nK cs ds sz m g x bs)(hy:nK cs ds sz m g y bs)(hA:∀a b,aj g x bs=.ok a→aj g y bs=.ok b→Ev (fun n=>oz n op a b) (pz (CG op a b))):nK cs ds sz m g (.mk op nm k u [x,y]) bs:=by
 have h28:(op==28)=false:=by
  unfold xw at h
  grind
 refine lT ?_;rw[bG,adW h];simp only[aqZ _ h];exact aGG h28 hx hy hA
theorem arW{env:Env}(hg:Xp env sz g){op:Int}{nm:Str}{k:Int}{u:Ty}{sc:List Decl}{t:Ty}{x y:Tm}{bs:List Bound}(ho:op=16∨op=17∨op=18)(hs:Scp env sz sc bs)(hx:HT env sc x (cond (op==18) (au t) t))(hy:HT env sc y (au t))(hX:nK cs ds sz m g x bs)(hE:nK cs ds sz m g y bs)
  (hK:∀z∈y.kids,iO y.op=true→nK cs ds sz m g z bs) (hl:∀v,aj g x bs=.ok v→v.kids.length≤256):nK cs ds sz m g (.mk op nm k u [x,y]) bs:=by
 refine lT ?_;have e:aj g (.mk op nm k u [x,y]) bs=(aj g x bs).thn (X9 op (nu g y) bs):=by
  rw[bG];rcases ho with rfl|rfl|rfl<;>rfl
 rw[e];have main:=fun a (ha:aj g x bs=.ok a)=>aGw (cs:=cs) (ds:=ds) (m:=m) hg ho hs hy hE hK a (sound hg x sc _ bs a hx hs ha) (hl a ha);rcases ho with rfl|rfl|rfl
 ·exact dV.mono (f:=fun n=>(aM n cs ds sz m bs.reverse x).bind (PZ.el (fun x7=>_) (fun e8 z8=>some (.er e8 z8)))) (fun v h=>h) (dV.bind (K:=vb bs.reverse) hX main)
 ·exact dV.mono (f:=fun n=>(aM n cs ds sz m bs.reverse x).bind (PZ.el (fun x7=>_) (fun e8 z8=>some (.er e8 z8)))) (fun v h=>h) (dV.bind (K:=vb bs.reverse) hX main)
 ·exact dV.mono (f:=fun n=>(aM n cs ds sz m bs.reverse x).bind (PZ.el (fun x7=>_) (fun e8 z8=>some (.er e8 z8)))) (fun v h=>h) (dV.bind (K:=vb bs.reverse) hX main)
end
theorem avi{env:Env}{sz:List Int}{t:Ty}{v:Val}(h:hasB env sz t v=true):v.kids.length≤256:=by
 obtain⟨k,nm,ks⟩:=t;rw[hasB]at h;unfold acs abw OD at h
 grind
theorem aek{env:Env}{cs:List Carrier}{ds:List Decl}{sz:List Int}{m:List (Str×Val)}{g:Str→Val}(hg:Xp env sz g)(hk:LkE env cs ds sz m g)(t:Tm):
  (∀d sc ty bs,Wf d t→HT env sc t ty→Scp env sz sc bs→(bs.length:Int)<d→nK cs ds sz m g t bs)∧∀z∈t.kids,∀d sc ty bs,Wf d z→HT env sc z ty→Scp env sz sc bs→(bs.length:Int)<d→nK cs ds sz m g z bs:=by
 induction t using Tm.ind with
 |h op nm k u ks ih=>
 refine⟨?_,fun z hz=>(ih z hz).1⟩;intro d sc ty bs hw ht hs hb;obtain⟨hnode,hd,hkl,hkw⟩:=hw.node;have hbl:bs.length≤1000:=by omega
 have S:∀{e:Ty} {w:Val},hasB env sz (au e) w=true→dO w.kids∧∀x∈w.kids,hasB env sz e x=true:=fun hw=>by
  obtain⟨l,rfl,h1,h2⟩:=iV.1 hw;exact⟨h1,h2⟩
 have R:∀{a b:Ty} {w:Val},hasB env sz (au (aR a b)) w=true→fI w.kids:=fun hw p hp=>by
  obtain⟨x,y,rfl,_,_⟩:=qJ.1 ((S hw).2 p hp);exact⟨x,y,rfl⟩
 have I:∀{w:Val},hasB env sz fE w=true→EU w.n:=fun hw=>by
  obtain⟨n,rfl,h⟩:=sG.1 hw;exact h
 have D:=fun x (hx:x∈ks) ty (h:HT env sc x ty)=>(ih x hx).1 (d+1) sc ty bs (hkw x hx) h hs (by omega);have V:∀{x:Tm} {ty:Ty} {v:Val},HT env sc x ty→aj g x bs=.ok v→hasB env sz ty v=true:=fun h e=>sound hg _ sc _ bs _ h hs e;have z0:dO v0.kids:=⟨.nil,by simp[v0,Val.kids]⟩;have sA:∀{op:Int} {a b:Val},31≤op→dO a.kids→dO b.kids→((35≤op∧op≤36∨39≤op∧op≤40∨50≤op∧op≤54)→fI a.kids)→(35≤op∧op≤38→fI b.kids)→SetsOk op a b:=fun h31 h1 h2 h3 h4=>⟨fun h=>by omega,fun _=>⟨h1,h2⟩,h3,h4⟩;have bn:∀{op:Int} {x y:Tm} {e t:Ty},bY op=true→ks=[x,y]→HT env sc x (au e)→HT env (⟨nm,e⟩::sc) y t→dV (vb bs.reverse) (fun n=>dJ n cs ds sz m bs.reverse (.mk op nm k u [x,y])) bs.reverse (aj g (.mk op nm k u [x,y]) bs):=fun hbd hks hx hy=>by
  subst hks;refine aAp hbd (D _ (by simp) _ hx) hbl (fun v hv=>(S (V hx hv)).1.2) fun v hv a ha=>?_;exact(ih _ (by simp)).1 (d+1) _ _ _ (hkw _ (by simp)) hy (.cons ((S (V hx hv)).2 a ha) hs) (by simp;omega)
 have K:∀{y:Tm} {t:Ty},y∈ks→HT env sc y (au t)→∀z∈y.kids,iO y.op=true→nK cs ds sz m g z bs:=fun{y t} hym hy z hz hsy=>by
  have hwy:=(hkw y hym);have hi:=fun hT=>(ih y hym).2 z hz (d+1+1) sc hT bs;cases hy with
  |fam q hq hz1 hw1=>
   have hz:z∈[_,_]:=hz;have hwz:=hwy.node.2.2.2 z hz;rcases qAh.1 hz with rfl|hz'
   ·exact hi _ hwz hz1 hs (by omega)
   ·have hz':=qAK.1 hz';subst hz';exact hi _ hwz hw1 hs (by omega)
  |pow hz1=>
   have hz:z∈[_]:=hz;have hwz:=hwy.node.2.2.2 z hz;have hz':=qAK.1 hz;subst hz';exact hi _ hwz hz1 hs (by omega)
  |bin q hq=>rcases hq with rfl|rfl|rfl<;>cases hsy
  |dres q hq=>rcases hq with rfl|rfl<;>cases hsy
  |rres q hq=>rcases hq with rfl|rfl<;>cases hsy
  |_=>cases hsy
 cases ht with
 |lit op ho=>
  refine lT ?_;rcases ho with rfl|rfl
  ·exact Ev.of fun _=>rfl
  ·exact Ev.of fun _=>rfl
 |int h=>
  refine lT ?_;exact dV.pure (r:=gM k) (M5 k) (Er.int k)
 |name hl=>
  refine lT ?_;exact dV.pure (azl hk hs hl) (Er.ok _)
 |empty h=>
  refine lT ?_;exact Ev.of fun _=>rfl
 |not hx=>exact app1 rfl (D _ (by simp) _ hx) fun a ha=>iE (by omega) (by omega) (by omega) (by omega) (by omega) (by omega) (by omega)
 |log op ho hx hy=>
  rename_i x y;rcases ho with rfl|rfl|rfl|rfl
  ·exact lT (dV.same (ahl (by omega) (D _ (by simp) _ hx) (D _ (by simp) _ hy)))
  ·exact lT (dV.same (ahl (by omega) (D _ (by simp) _ hx) (D _ (by simp) _ hy)))
  ·exact lT (dV.same (ahl (by omega) (D _ (by simp) _ hx) (D _ (by simp) _ hy)))
  ·exact Fq rfl (D _ (by simp) _ hx) (D _ (by simp) _ hy) fun a b ha hb=>iE (by omega) (by omega) (by omega) (by omega) (by omega) (by omega) (by omega)
 |qu op ho hx hy=>
  rename_i x y e;rcases ho with rfl|rfl
  ·exact lT (dV.same (bn rfl rfl hx hy))
  ·exact lT (dV.same (bn rfl rfl hx hy))
 |compr hx hy=>exact lT (dV.same (bn rfl rfl hx hy))
 |fn hgt hx hy=>exact lT (dV.same (bn rfl rfl hx hy))
 |eq op ho hgt hx hy=>
  rcases ho with rfl|rfl
  ·exact Fq rfl (D _ (by simp) _ hx) (D _ (by simp) _ hy) fun a b ha hb=>iE (by omega) (by omega) (by omega) (by omega) (by omega) (by omega) (by omega)
  ·exact Fq rfl (D _ (by simp) _ hx) (D _ (by simp) _ hy) fun a b ha hb=>iE (by omega) (by omega) (by omega) (by omega) (by omega) (by omega) (by omega)
 |ord op ho hx hy=>
  have h1:xw op=true:=by rcases ho with rfl|rfl|rfl|rfl<;>rfl
  exact Fq h1 (D _ (by simp) _ hx) (D _ (by simp) _ hy) fun a b ha hb=>iE (by omega) (by omega) (by omega) (by omega) (by omega) (by omega) (by omega)
 |inn op ho hx hy=>
  rename_i x y t;have h18:(op==18)=false:=by rcases ho with rfl|rfl<;>rfl
  exact arW hg (by omega) hs (by rw[h18];exact hx) hy (D _ (by simp) _ hx) (D _ (by simp) _ hy) (K (by simp) hy) fun v hv=>avi (V hx hv)
 |sub hx hy=>exact arW hg (.inr (.inr rfl)) hs hx hy (D _ (by simp) _ hx) (D _ (by simp) _ hy) (K (by simp) hy) fun v hv=>avi (V hx hv)
 |neg hx=>exact app1 rfl (D _ (by simp) _ hx) fun a ha=>iE (by omega) (fun _=>⟨I (V hx ha),by constructor<;>simp[v0,Val.n]⟩) (by omega) (by omega) (by omega) (by omega) (by omega)
 |num op ho hx hy=>
  have h1:xw op=true:=by rcases ho with rfl|rfl|rfl|rfl|rfl<;>rfl
  exact Fq h1 (D _ (by simp) _ hx) (D _ (by simp) _ hy) fun a b ha hb=>iE (by omega) (fun _=>⟨I (V hx ha),I (V hy hb)⟩) (by omega) (by omega) (by omega) (by omega) (by omega)
 |pair h1 h2 hx hy=>exact Fq rfl (D _ (by simp) _ hx) (D _ (by simp) _ hy) fun a b ha hb=>iE (by omega) (by omega) (by omega) (by omega) (by omega) (by omega) (by omega)
 |set hgt hn hx=>
  refine lT ?_;have e:aj g (.mk 28 nm k u ks) bs=(aN (ks.map fun t=>aj g t bs)).thn bF:=by
   rw[bG];show(aN ((ks.map (nu g)).map fun k=>k.f bs)).thn bF=_;rw[qBh];rfl
  rw[e];exact aAd (fun x hx'=>D x hx' _ (hx x hx')) (by omega)
 |range hx hy=>exact Fq rfl (D _ (by simp) _ hx) (D _ (by simp) _ hy) fun a b ha hb=>iE (by omega) (by omega) (by omega) (by omega) (by omega) (by omega) fun _=>⟨fun _=>⟨I (V hx ha),I (V hy hb)⟩,fun h=>absurd rfl h,by omega,by omega⟩
 |bin op ho hx hy=>
  have h1:xw op=true:=by rcases ho with rfl|rfl|rfl<;>rfl
  exact Fq h1 (D _ (by simp) _ hx) (D _ (by simp) _ hy) fun a b ha hb=>iE (by omega) (by omega) (by omega) (by omega) (by omega) (by omega) fun _=>sA (by omega) (S (V hx ha)).1 (S (V hy hb)).1 (by omega) (by omega)
 |prod hx hy=>exact Fq rfl (D _ (by simp) _ hx) (D _ (by simp) _ hy) fun a b ha hb=>iE (by omega) (by omega) (by omega) (by omega) (by omega) (by omega) fun _=>sA (by omega) (S (V hx ha)).1 (S (V hy hb)).1 (by omega) (by omega)
 |over hx hy=>exact Fq rfl (D _ (by simp) _ hx) (D _ (by simp) _ hy) fun a b ha hb=>iE (by omega) (by omega) (by omega) (by omega) (by omega) (by omega) fun _=>sA (by omega) (S (V hx ha)).1 (S (V hy hb)).1 (fun _=>R (V hx ha)) (fun _=>R (V hy hb))
 |comp hx hy=>exact Fq rfl (D _ (by simp) _ hx) (D _ (by simp) _ hy) fun a b ha hb=>iE (by omega) (by omega) (by omega) (by omega) (by omega) (by omega) fun _=>sA (by omega) (S (V hx ha)).1 (S (V hy hb)).1 (fun _=>R (V hx ha)) (fun _=>R (V hy hb))
 |dres op ho hx hy=>
  have h1:xw op=true:=by rcases ho with rfl|rfl<;>rfl
  exact Fq h1 (D _ (by simp) _ hx) (D _ (by simp) _ hy) fun a b ha hb=>iE (by omega) (by omega) (by omega) (by omega) (by omega) (by omega) fun _=>sA (by omega) (S (V hx ha)).1 (S (V hy hb)).1 (by omega) (fun _=>R (V hy hb))
 |rres op ho hx hy=>
  have h1:xw op=true:=by rcases ho with rfl|rfl<;>rfl
  exact Fq h1 (D _ (by simp) _ hx) (D _ (by simp) _ hy) fun a b ha hb=>iE (by omega) (by omega) (by omega) (by omega) (by omega) (by omega) fun _=>sA (by omega) (S (V hx ha)).1 (S (V hy hb)).1 (fun _=>R (V hx ha)) (by omega)
 |fam op ho hx hy=>
  have h1:xw op=true:=by rcases ho with rfl|rfl|rfl|rfl|rfl<;>rfl
  exact Fq h1 (D _ (by simp) _ hx) (D _ (by simp) _ hy) fun a b ha hb=>iE (by omega) (by omega) (by omega) (by omega) (by omega) (by omega) fun _=>sA (by omega) (S (V hx ha)).1 (S (V hy hb)).1 (by omega) (by omega)
 |pow hx=>exact app1 rfl (D _ (by simp) _ hx) fun a ha=>iE (by omega) (by omega) (by omega) (by omega) (by omega) (by omega) fun _=>sA (by omega) (S (V hx ha)).1 z0 (by omega) (by omega)
 |card hx=>exact app1 rfl (D _ (by simp) _ hx) fun a ha=>iE (by omega) (by omega) (fun _=>(S (V hx ha)).1) (by omega) (by omega) (by omega) (by omega)
 |ext op ho hx=>
  have h1:xw op=true:=by rcases ho with rfl|rfl<;>rfl
  exact app1 h1 (D _ (by simp) _ hx) fun a ha=>iE (by omega) (by omega) (fun _=>(S (V hx ha)).1) (by omega) (by omega) (by omega) (by omega)
 |dom hx=>exact app1 rfl (D _ (by simp) _ hx) fun a ha=>iE (by omega) (by omega) (by omega) (by omega) (by omega) (by omega) fun _=>sA (by omega) (S (V hx ha)).1 z0 (fun _=>R (V hx ha)) (by omega)
 |ran hx=>exact app1 rfl (D _ (by simp) _ hx) fun a ha=>iE (by omega) (by omega) (by omega) (by omega) (by omega) (by omega) fun _=>sA (by omega) (S (V hx ha)).1 z0 (fun _=>R (V hx ha)) (by omega)
 |inv hx=>exact app1 rfl (D _ (by simp) _ hx) fun a ha=>iE (by omega) (by omega) (by omega) (by omega) (by omega) (by omega) fun _=>sA (by omega) (S (V hx ha)).1 z0 (fun _=>R (V hx ha)) (by omega)
 |image hx hy=>exact Fq rfl (D _ (by simp) _ hx) (D _ (by simp) _ hy) fun a b ha hb=>iE (by omega) (by omega) (by omega) (by omega) (by omega) (by omega) fun _=>sA (by omega) (S (V hx ha)).1 (S (V hy hb)).1 (fun _=>R (V hx ha)) (by omega)
 |app hx hy=>exact Fq rfl (D _ (by simp) _ hx) (D _ (by simp) _ hy) fun a b ha hb=>iE (by omega) (by omega) (fun _=>(S (V hx ha)).1) (fun _=>R (V hx ha)) (by omega) (by omega) (by omega)
end
section
open Go
def bT(env:Env)(t:Tm):Ty×List Int×Int:=cond (aW env&&cO t) (YQ (bX env [] t)) (bH,[],1)
theorem wR:GoodS []:=fun _ h=>by cases h
abbrev FQ(env:Env):Prop:=∀d∈env.names,d.name.length≤9223372036854775807
theorem QD(env:Env)(t:Tm)(hs:FQ env)(ht:iN t):Ev (fun n=>A8 n env t) (bT env t):=by
 unfold A8 bT;refine Ev.bind (a:=!(aW env&&cO t)) ?_ ?_
 ·refine Ev.bind (C8 env hs) ?_;cases aW env with
  |false=>exact Ev.ret _
  |true=>exact Ev.bind (OB t ht) (Ev.ret _)
 ·cases hb:(aW env&&cO t)with
  |false=>exact Ev.ret _
  |true=>
   simp only[qAa]at hb;simp only[qAv,cond_false,cond_true];refine Ev.bind (aoL hb.1) ?_;refine Ev.bind (aGC hb.1 t 1 [] [] (sP hb.2) wR (by simp)) ?_;cases hr:bX env [] t with
   |er e p=>
    have he:=IG t [] e p hr;have e0:(e !=0)=true:=by simpa using he
    have hp:=ab0 (sP hb.2) [] e p hr;simp only[VB,YQ,e0,cond_true,slices_Clone_int,qAo];rw[qh (by simp;omega) (by omega)];exact Ev.ret _
   |ok u=>
    simp only[VB,YQ,show((0:Int)!=0)=false from rfl,cond_false];exact Ev.bind (atu u (aAH (sV hb.1 wR hr))) (Ev.ret _)
theorem J5(env:Env)(t:Tm):Ev (fun n=>Dv n env t) (bT env t):=by
 unfold Dv bT;refine Ev.bind (a:=!(aW env&&cO t)) ?_ ?_
 ·refine Ev.bind (KX env) ?_;cases aW env with
  |false=>exact Ev.ret _
  |true=>exact Ev.bind (xS t) (Ev.ret _)
 ·cases hb:(aW env&&cO t)with
  |false=>exact Ev.ret _
  |true=>
   simp only[qAa]at hb;simp only[qAv,cond_false,cond_true];refine Ev.bind (aJx hb.1 t 1 [] (sP hb.2) wR (by simp)) ?_;cases hr:bX env [] t with
   |er e p=>exact Ev.bind (Vl bH rfl) (Ev.ret _)
   |ok u=>exact Ev.bind (Vl u (aAH (sV hb.1 wR hr))) (Ev.ret _)
end
section
open Go
theorem afR{env:Env}(h:aW env=true):∀d∈env.names,bA d.ty=true∧(dX d.ty).all (dP env)=true:=by
 intro d hd;simp only[aW,qAa]at h;have:=qAP.1 h.2.2.1 d hd;simp only[EF,qAa]at this;exact⟨this.2.1.1,this.2.2⟩
def gW(w:S_api_World):Bool:=(aW w.env&&(uj w.env w.sizes&&!((w.values.length:Int)!=(w.env.names.length:Int))))&&!((w.env.names.zip w.values).any fun q=>!(hasB w.env w.sizes q.1.ty q.2))
theorem Zw(w:S_api_World)(hs:∀d∈w.env.names,d.name.length≤9223372036854775807):Ev (fun n=>wP n w) (gW w):=by
 unfold wP gW;refine Ev.bind (a:=!(aW w.env&&(uj w.env w.sizes&&!((w.values.length:Int)!=(w.env.names.length:Int))))) ?_ ?_
 ·refine Ev.bind (C8 w.env hs) ?_;cases aW w.env with
  |false=>exact Ev.ret _
  |true=>
   refine Ev.bind (af4 w.env w.sizes) ?_;cases uj w.env w.sizes with
   |false=>exact Ev.ret _
   |true=>
    simp only[qAv,cond_false,qAu,qCk];exact Ev.ret _
 ·cases hb:(aW w.env&&(uj w.env w.sizes&&!((w.values.length:Int)!=(w.env.names.length:Int))))with
  |false=>exact Ev.ret _
  |true=>
   simp only[qAa,qAV,bne_eq_false_iff_eq]at hb;obtain⟨h1,h2,h3⟩:=hb;simp only[qAv,cond_false,qAu];have hd:=afR h1;refine Ev.bind (acZ w.env.names w.values (by omega) (fun n k i=>NG n w k i) (fun n d v=>(kN n w.env w.sizes v d.ty).bind fun b=>some (!b)) (fun d v=>!(hasB w.env w.sizes d.ty v)) false (fun n k i=>by
    show cond _ _ _=_;simp only[qAW,qAb];rfl) (fun d hm v=>Ev.bind (ayM w.env w.sizes (Dk h2) (PY (hd d hm).1) (hd d hm).2 v) (Ev.ret _))) ?_
   cases((w.env.names.zip w.values).any fun q=>!(hasB w.env w.sizes q.1.ty q.2))<;>exact Ev.ret _
end
section
open Go
def elems(name:Str)(k:Nat):List Val:=(List.range k).map fun(i:Nat)=>Val.mk 3 (i:Int) name []
def yM:List Carrier→List Int→Str→Option Val
 |c::cs,z::zs,s=>cond (c.name==s) (some (mkSet (elems c.name z.toNat))) (cond (decide (0≤dR (fun e=>s==e) 0 c.elems)) (some (.mk 3 (dR (fun e=>s==e) 0 c.elems) c.name [])) (yM cs zs s))
 |_,_,_=>none
def vG(w:S_api_World):List (Str×Val):=gI ((w.env.names.zip w.values).map fun q=>(q.1.name,q.2)) []
def aI(w:S_api_World)(s:Str):Val:=match dn (vG w) s with
 |some v=>v
 |none=>(yM w.env.carriers w.sizes s).getD v0
theorem mR{w:S_api_World}(h:gW w=true):aW w.env=true∧uj w.env w.sizes=true∧w.values.length=w.env.names.length∧∀q∈w.env.names.zip w.values,hasB w.env w.sizes q.1.ty q.2=true:=by
 unfold gW at h
 grind
theorem aFM(nm:Str)(z:Int)(h0:0≤z)(h8:z≤8):Ev (fun n=>MH n nm z) (elems nm z.toNat):=by
 have hz:(((List.range z.toNat).length:Nat):Int)=z:=by rw[List.length_range];omega
 have h:=mG (ρ:=List Val) (List.range z.toNat) (fun n=>BX n nm z) (fun i s=>(s,i)) (fun i=>[Val.mk 3 (i:Int) nm []]) 1000 (by omega) (fun n rec s=>by
  unfold BX;rw[hz,decide_eq_false (Int.lt_irrefl _)];rfl) (fun pre x suf s e hb=>⟨0,fun n hn rec=>by
  have hx:x=pre.length:=by
   have h1:=congrArg (fun l=>l[pre.length]?) e
   grind
  have hl:pre.length<z.toNat:=by
   grind
  unfold BX;rw[decide_eq_true (by simp;omega),hx];rw[dQ (by simpa using hb)];rfl⟩) (s0:=[]) (by rw[flatMap_one];simp;omega)
 rw[flatMap_one]at h;exact Ev.bind h (Ev.ret _)
theorem aAs(es:List Str)(s:Str):Ev (fun n=>Y1 n es s) (dR (fun e=>s==e) 0 es):=by
 exact vo es (fun n k i=>ae8 n es s k i) (fun _ x=>some (s==x)) (fun e=>s==e) (fun n k i=>rfl) (fun x _=>Ev.ret _)
theorem aea:∀(pre:List Carrier) (ps:List Int) (c:Carrier) (suf:List Carrier) (z:Int) (zs:List Int),pre.length=ps.length→J4 (pre++c::suf) (ps++z::zs)=true→abf c z=false
 |[],[],c,suf,z,zs,_,h=>by
  simp only[qAo,J4,qAa,qAV]at h;exact h.1
 |[],p::ps,_,_,_,_,hl,_=>by simp at hl
 |a::pre,[],_,_,_,_,hl,_=>by simp at hl
 |a::pre,p::ps,c,suf,z,zs,hl,h=>by
  simp only[qAM,J4,qAa]at h;exact aea pre ps c suf z zs (by simpa using hl) h.2
theorem adi{c:Carrier}{z:Int}(h:abf c z=false):1≤z∧z≤8∧((c.elems.length:Int)=0∨z=c.elems.length):=by
 unfold abf at h
 grind
theorem awM{env:Env}{sz:List Int}(h:uj env sz=true):J4 env.carriers sz=true:=by
 unfold uj at h
 grind
theorem anH(env:Env)(sz:List Int)(hf:uj env sz=true)(s:Str):∀(suf:List Carrier) (zs:List Int) (pre:List Carrier) (ps:List Int),env.carriers=pre++suf→sz=ps++zs→pre.length=ps.length→suf.length=zs.length→
  ∃N,∀n,N≤n→∀k,suf.length+1≤k→YV n env.carriers sz s k (pre.length:Int)=some (match yM suf zs s with|some v=>.rt (.ok v)|none=>.nx ())
 |[],[],pre,ps,he,_,_,_=>by
  refine⟨0,fun n _ k hk=>?_⟩;obtain⟨j,rfl⟩:∃j,k=j+1:=⟨k - 1,by omega⟩;show FN n env.carriers sz s _ _=_;unfold FN;rw[decide_eq_false (by rw[he];simp)];rfl
 |[],z::zs,_,_,_,_,_,h=>by simp at h
 |c::suf,[],_,_,_,_,_,h=>by simp at h
 |c::suf,z::zs,pre,ps,he,hz,hp,hl=>by
  have hfit:=awM hf;rw[he,hz]at hfit;obtain⟨z1,z2,_⟩:=adi (aea pre ps c suf z zs hp hfit);obtain⟨N1,h1⟩:=aFM c.name z (by omega) z2;obtain⟨N2,h2⟩:=aAs c.elems s;obtain⟨N3,h3⟩:=anH env sz hf s suf zs (pre++[c]) (ps++[z]) (by simp[he]) (by simp[hz]) (by simp[hp]) (by simpa using hl);refine⟨N1+N2+N3,fun n hn k hk=>?_⟩;obtain⟨j,rfl⟩:∃j,k=j+1:=⟨k - 1,by omega⟩;have h1:MH n c.name z=_:=h1 n (by omega);have h2:Y1 n c.elems s=_:=h2 n (by omega);have h3:=h3 n (by omega) j (by simp at hk;omega);have hi:=(bg hz).2;rw[←hp]at hi;show FN n env.carriers sz s (YV n env.carriers sz s j) _=_;unfold FN yM;rw[(bg he).1];simp only[cond_true,(bg he).2,qAb,hi,h1,h2];cases c.name==s
  ·cases decide (0≤dR (fun e=>s==e) 0 c.elems)
   ·rw[show(pre.length:Int)+1=((pre++[c]).length:Int) by simp];exact h3
   ·rfl
  ·rfl
theorem apK(env:Env)(sz:List Int)(hf:uj env sz=true)(hn:(env.carriers.map (·.name)).Nodup)(s:Str):∀(suf:List Carrier) (zs:List Int) (pre:List Carrier) (ps:List Int),env.carriers=pre++suf→sz=ps++zs→pre.length=ps.length→suf.length=zs.length→
  (match yM suf zs s with|some v=>∃t,(s,t)∈suf.flatMap kR∧hasB env sz t v=true|none=>∀t,(s,t)∉suf.flatMap kR)
 |[],[],pre,ps,he,_,_,_=>by simp[yM]
 |[],z::zs,_,_,_,_,_,h=>by simp at h
 |c::suf,[],_,_,_,_,_,h=>by simp at h
 |c::suf,z::zs,pre,ps,he,hz,hp,hl=>by
  have hfit:=awM hf;rw[he,hz]at hfit;obtain⟨z1,z2,z3⟩:=adi (aea pre ps c suf z zs hp hfit);have ih:=apK env sz hf hn s suf zs (pre++[c]) (ps++[z]) (by simp[he]) (by simp[hz]) (by simp[hp]) (by simpa using hl);have hsz:He env sz c.name=z:=by
   have key:∀(q:List Carrier) (i:Int),(∀d∈q,d.name≠c.name)→dR (fun d:Carrier=>d.name==c.name) i (q++c::suf)=i+q.length:=by
    intro q
    induction q with
    |nil=>intro i _;simp[dR]
    |cons d q ihq=>
     intro i h;have h1:(d.name==c.name)=false:=by simpa using h d (by simp)
     rw[qAM,dR,h1,cond_false,ihq _ fun e he=>h e (by simp[he])];simp;omega
   unfold He;rw[he,key pre 0 (fun d hd hdc=>by
    rw[he,qBj,qDe]at hn;exact hn.2.2 d.name (qAJ.2 ⟨d,hd,rfl⟩) c.name (by simp) hdc),Int.zero_add]
   have hi:=(bg hz).2;rw[←hp]at hi;rw[hi];rfl
  have hel:∀i:Int,0≤i→i<z→hasB env sz (nD c.name) (.mk 3 i c.name [])=true:=fun i h1 h2=>by
   rw[show hasB env sz (nD c.name) (.mk 3 i c.name [])=OD env sz c.name (.mk 3 i c.name []) by unfold nD hasB;rfl];unfold OD;simp[Val.kind,Val.name,Val.kids,Val.n,hsz,h1,h2]
  unfold yM;cases hc:(c.name==s)with
  |true=>
   have hc:=eq_of_beq hc;subst hc;refine⟨au (nD c.name),by simp[kR],iV.2 ⟨_,rfl,⟨?_,?_⟩,fun x hx=>?_⟩⟩
   ·unfold elems;rw[List.pairwise_map];refine List.Pairwise.imp (fun{a b} hab=>?_) qDv;show bQ _ _<0;rw[zw,zy,zy];exact .inr ⟨(pF 3 3).2 rfl,.inl ((ad7 _ _).2 (by omega))⟩
   ·unfold elems;simp;omega
   ·unfold elems at hx;obtain⟨i,hi,rfl⟩:=qAJ.1 hx;rw[qBW]at hi;exact hel i (by omega) (by omega)
  |false=>
   have hge:=mO (fun e=>s==e) c.elems 0 (qBD _);simp only[cond_false];cases hd:decide (0≤dR (fun e=>s==e) 0 c.elems)with
   |true=>
    simp only[cond_true];rw[hd]at hge;obtain⟨e,he',hse⟩:=qCB.1 hge.symm;have hse:s=e:=eq_of_beq hse;refine⟨nD c.name,?_,hel _ (of_decide_eq_true hd) ?_⟩
    ·rw[qBf,qAr];exact .inl (qAk _ (qAJ.2 ⟨e,he',by rw[hse]⟩))
    ·rcases Dw (fun e=>s==e) c.elems []with⟨x,_,_,g1,g2⟩|⟨_,g⟩
     ·simp only[qAA,qAo]at g1 g2;rw[show(((0:Nat):Int))=0 from rfl]at g1 g2;unfold idx at g2;rw[if_pos g1]at g2;have hlt:=(qAH.1 g2).1;rcases z3 with h|h<;>omega
     ·simp only[qAA]at g;rw[show(((0:Nat):Int))=0 from rfl]at g;have:=of_decide_eq_true hd;omega
   |false=>
    simp only[cond_false];rw[hd]at hge;have hno:∀t,(s,t)∉kR c:=fun t ht=>by
     unfold kR at ht;rcases qAh.1 ht with ht|ht
     ·cases ht;simp at hc
     ·obtain⟨e,he',hee⟩:=qAJ.1 ht;cases hee;have:=List.any_eq_false.1 hge.symm s he';simp at this
    cases hv:yM suf zs s with
    |some v=>
     rw[hv]at ih;obtain⟨t,h1,h2⟩:=ih;exact⟨t,by rw[qBf,qAr];exact .inr h1,h2⟩
    |none=>
     rw[hv]at ih;intro t ht;rw[qBf,qAr]at ht;exact ht.elim (hno t) (ih t)
theorem aA3(ds:List Decl)(vs:List Val)(h:vs.length=ds.length):((ds.zip vs).map fun q=>(q.1.name,q.2)).map (·.1)=ds.map (·.name):=by
 induction ds generalizing vs with
 |nil=>simp
 |cons d ds ih=>
  cases vs with
  |nil=>simp at h
  |cons v vs=>
   simp_all
theorem J8{w:S_api_World}(h:gW w=true)(s:Str):dn (vG w) s=dn ((w.env.names.zip w.values).map fun q=>(q.1.name,q.2)) s∧(((w.env.names.zip w.values).map fun q=>(q.1.name,q.2)).map (·.1)).Nodup:=by
 obtain⟨h1,h2,h3,h4⟩:=mR h;have hn:(((w.env.names.zip w.values).map fun q=>(q.1.name,q.2)).map (·.1)).Nodup:=by
  rw[aA3 _ _ h3];have:=(iJ h1).2.2.2.2;unfold names2 at this
  grind
 unfold vG;rw[QV _ _ _ hn,Oe]
 grind
theorem anT{env:Env}(h:aW env=true):(env.carriers.map (·.name)).Nodup:=by
 have:=(iJ h).2.2.2.2;unfold names2 at this
 grind
theorem PS{w:S_api_World}(h:gW w=true)(s:Str)(t:Ty)(ht:look w.env s=some t):(∃v,dn (vG w) s=some v∧aI w s=v∧hasB w.env w.sizes t v=true)∨(∃v,dn (vG w) s=none∧yM w.env.carriers w.sizes s=some v∧aI w s=v∧hasB w.env w.sizes t v=true):=by
 obtain⟨h1,h2,h3,h4⟩:=mR h;obtain⟨hf,hn⟩:=J8 h s;have un:∀t',(s,t')∈wK w.env→t'=t:=fun t' h'=>by
  have:=(Ae h1).2 h'
  grind
 unfold aI;cases hm:dn (vG w) s with
 |some v=>
  refine .inl ⟨v,rfl,rfl,?_⟩;rw[hf]at hm;rw[qY _ _ _ hn]at hm;obtain⟨q,hq,hqe⟩:=qAJ.1 hm;cases hqe;have:=un q.1.ty (by unfold wK;rw[qAr];exact .inr (qAJ.2 ⟨q.1,(qCR (show(q.1,q.2)∈w.env.names.zip w.values from hq)).1,rfl⟩))
  grind
 |none=>
  have hc:=apK w.env w.sizes h2 (anT h1) s w.env.carriers w.sizes [] [] rfl rfl rfl (Dk h2).symm;cases hv:yM w.env.carriers w.sizes s with
  |some v=>
   rw[hv]at hc;obtain⟨t',h5,h6⟩:=hc;have:=un t' (by unfold wK;rw[qAr];exact .inl h5)
   grind
  |none=>
   exfalso;rw[hv]at hc;have ht:=(Ae h1).1 ht;unfold wK at ht;rcases qAr.1 ht with ht|ht
   ·exact hc t ht
   ·obtain⟨d,hd,hde⟩:=qAJ.1 ht;cases hde;rw[hf]at hm;obtain⟨i,hi,rfl⟩:=qBy hd;have hz:(w.env.names[i],w.values[i]'(by omega))∈w.env.names.zip w.values:=by
     rw[qBF];exact⟨i,by simp;omega,by simp⟩
    have:=(qY ((w.env.names.zip w.values).map fun q=>(q.1.name,q.2)) w.env.names[i].name (w.values[i]'(by omega)) hn).2 (qAJ.2 ⟨_,hz,rfl⟩);rw[hm]at this;cases this
theorem DZ{w:S_api_World}(h:gW w=true):Xp w.env w.sizes (aI w):=fun s t ht=>by
 rcases PS h s t ht with⟨v,_,e,h1⟩|⟨v,_,_,e,h1⟩<;>rw[e]<;>exact h1
theorem aej{w:S_api_World}(h:gW w=true):LkE w.env w.env.carriers w.env.names w.sizes (vG w) (aI w):=fun s t ht b=>by
 obtain⟨h1,h2,_⟩:=mR h;unfold adY;rcases PS h s t ht with⟨v,e1,e2,_⟩|⟨v,e1,e2,e3,_⟩
 ·refine Ev.of fun n=>?_;rw[e1,e2];simp only[qAb,cond_true,alv]
 ·obtain⟨N,hN⟩:=anH w.env w.sizes h2 s w.env.carriers w.sizes [] [] rfl rfl rfl (Dk h2).symm;refine⟨N+w.env.carriers.length+1,fun n hn=>?_⟩
  grind
theorem anK{w:S_api_World}(h:gW w=true):Ev (fun n=>Mt n w) (w.env.carriers,w.env.names,w.sizes,vG w,[]):=by
 obtain⟨h1,h2,h3,h4⟩:=mR h;have hn64:=(iJ h1).2.1;have hl:(w.env.names.zip w.values).length=w.env.names.length:=by rw[qDt];omega
 have e:=wI (ρ:=(List Carrier)×(List Decl)×(List Int)×(List (Str×Val))×(List Bound)) (w.env.names.zip w.values) (fun n=>Cx n w) (fun i s=>(i,s)) (fun q s=>.nx (lJ s q.1.name q.2)) (fun s=>s) (fun suf s=>s.length+suf.length≤1000) (fun n rec s=>by
  unfold Cx;rw[hl,at_end];rfl) (fun pre q suf s e hI=>⟨⟨0,fun n hn rec=>by
  have hpl:pre.length<w.env.names.length:=by rw[←hl,e];simp
  have hg:=congrArg (fun l=>l[pre.length]?) e;simp at hg;rw[qAc (by omega),List.getElem_zip]at hg;have hg:=Option.some.inj hg;unfold Cx;rw[decide_eq_true (by simp;omega)];have i1:idx w.env.names (pre.length:Int)=some q.1:=by
   unfold idx
   grind
  have i2:idx w.values (pre.length:Int)=some q.2:=by
   unfold idx
   grind
  simp only[i1,i2,qAb];rw[LX (by omega)];rfl⟩,fun s' hs'=>by
   cases hs';have:=Dh s q.1.name q.2;simp at hI;omega⟩) (s0:=[]) (by simp;omega)
 rw[Jg (ρ:=(List Carrier)×(List Decl)×(List Int)×(List (Str×Val))×(List Bound)) (fun(s:List (Str×Val)) (q:Decl×Val)=>lJ s q.1.name q.2)]at e;have e2:(w.env.names.zip w.values).foldl (fun(s:List (Str×Val)) (q:Decl×Val)=>lJ s q.1.name q.2) []=vG w:=by
  unfold vG gI;rw[List.foldl_map]
 rw[e2]at e;exact Ev.bind e (Ev.ret _)
end
section
open Go
theorem acn{env:Env}{sz:List Int}{t:Ty}(h:Good t):∀v,hasB env sz t v=true→pY v:=by
 have leaf:∀v:Val,v.kids=[]→pY v:=fun v e=>by
  obtain⟨k,n,s,ks⟩:=v;subst e;simp[pY,F5]
 have all:∀l:List Val,(∀v∈l,pY v)→F5 l:=by
  intro l
  induction l with
  |nil=>intro _;simp[F5]
  |cons a l ih=>intro h;exact⟨h a (by simp),ih fun v hv=>h v (by simp[hv])⟩
 induction h with
 |int=>intro v h;obtain⟨n,rfl,_⟩:=sG.1 h;exact leaf _ rfl
 |car nm=>
  intro v h;rw[show hasB env sz (nD nm) v=OD env sz nm v by unfold nD hasB;rfl]at h;unfold OD at h
  simp_all
 |pair ha hb iha ihb=>
  intro v h;obtain⟨x,y,rfl,h1,h2⟩:=qJ.1 h;exact⟨by simp,all _ (by simp only[qAh,qCm,or_false];rintro v (rfl|rfl);exact iha _ h1;exact ihb _ h2)⟩
 |set ha ih=>
  intro v h;obtain⟨l,rfl,h1,h2⟩:=iV.1 h;exact⟨by have:=h1.2;omega,all l fun v hv=>ih v (h2 v hv)⟩
theorem Sb{env:Env}{sz:List Int}{t:Ty}(h:Top t)(v:Val)(hv:hasB env sz t v=true):pY v:=by
 rcases h with rfl|h
 ·obtain⟨b,rfl⟩:=Aa.1 hv;cases b<;>simp[aO,pY,F5]
 ·exact acn h v hv
theorem aAc{cs:List Carrier}{ds:List Decl}{sz:List Int}{m:List (Str×Val)}{g:Str→Val}{t:Tm}(h:nK cs ds sz m g t []):Ev (fun n=>rW n cs ds sz m [] t) (match aj g t []with| .ok v=>(v,0,[])| .er e=>(v0,e,[])):=by
 unfold nK at h;cases hr:aj g t []with
 |ok v=>rw[hr]at h;exact Ev.bind h (Ev.ret _)
 |er e=>
  rw[hr]at h;obtain⟨he,z,hz⟩:=h;refine Ev.bind hz (Ev.of fun n=>?_);have e1:(decide ((0:Int)≤e)&&decide (e≤1000))=true:=by rcases he with rfl|rfl<;>rfl
  simp only[PZ.el,e1];unfold FJ;rfl
def l9(w:S_api_World)(t:Tm):Val×Int:=match aj (aI w) t []with| .ok v=>(v,0)| .er e=>(v0,e)
def ig(w:S_api_World)(t:Tm):Val×Int:=cond (gW w&&cO t) (cond ((bT w.env t).2.2 !=0) (v0,(bT w.env t).2.2) (l9 w t)) (v0,1)
theorem Dt{w:S_api_World}{t:Tm}(hw:gW w=true)(hv:cO t=true)(h:(bT w.env t).2.2=0):∃ty,(bT w.env t).1=ty∧Top ty∧HT w.env [] t ty∧bX w.env [] t=.ok ty:=by
 obtain⟨h1,_⟩:=mR hw;unfold bT at h⊢;rw[h1,hv]at h⊢;cases ht:bX w.env [] t with
 |er e p=>rw[ht]at h;exact absurd h (IG t [] e p ht)
 |ok ty=>exact⟨ty,rfl,sV h1 wR ht,apj h1 t 1 [] ty (sP hv) wR ht,rfl⟩
theorem arq{w:S_api_World}{t:Tm}{ty:Ty}(hw:gW w=true)(hv:cO t=true)(ht:HT w.env [] t ty):nK w.env.carriers w.env.names w.sizes (vG w) (aI w) t []:=
 (aek (DZ hw) (aej hw) t).1 1 [] ty [] (sP hv) ht .nil (by simp)
theorem Qt{w:S_api_World}{t:Tm}{ty:Ty}{v:Val}(hw:gW w=true)(ht:HT w.env [] t ty)(h:aj (aI w) t []=.ok v):hasB w.env w.sizes ty v=true:=sound (DZ hw) t [] ty [] v ht .nil h
theorem H7(w:S_api_World)(t:Tm)(hs:FQ w.env)(hS:iN t):Ev (fun n=>mU n w t) (ig w t):=by
 unfold mU ig;refine Ev.bind (a:=!(gW w&&cO t)) ?_ ?_
 ·refine Ev.bind (Zw w hs) ?_;cases gW w with
  |false=>exact Ev.ret _
  |true=>exact Ev.bind (OB t hS) (Ev.ret _)
 ·cases hq:(gW w&&cO t)with
  |false=>exact Ev.ret _
  |true=>
   rw[qAa]at hq;refine Ev.bind (QD w.env t hs hS) ?_;cases he:((bT w.env t).2.2 !=0)with
   |true=>exact Ev.ret _
   |false=>
    obtain⟨ty,h1,h2,h3,_⟩:=Dt hq.1 hq.2 (by simpa using he);refine Ev.bind (anK hq.1) (Ev.bind (aAc (arq hq.1 hq.2 h3)) ?_);unfold l9;cases hr:aj (aI w) t []with
    |ok v=>exact Ev.bind (adp v (Sb h2 v (Qt hq.1 h3 hr))) (Ev.ret _)
    |er e=>exact Ev.bind (adp v0 (by simp[v0,pY,F5])) (Ev.ret _)
end
section
open Go
theorem aFr:∀t:Tm,∃c,Ev (fun n=>KT n t) c:=Tm.ind fun op nm k u ks ih=>by
 have hz:∀x:Tm,∃c,x∈ks→Ev (fun n=>KT n x) c:=fun x=>by
  by_cases h:x∈ks
  ·simp_all
  simp_all
 obtain⟨cf,hcf⟩:=qCu hz
 let f:Int→Tm→Int:=fun i x=>cond (bY op&&i==1) (IntKind.wrap .i64 (cf x*64)) (cf x)
 have key:∀(suf pre:List Tm) (s:Int),ks=pre++suf→∃r,∃N,∀n,N≤n→∀j,suf.length+1≤j→Zl n (KT n) (.mk op nm k u ks) j (s,(pre.length:Int))=some r:=by
  intro suf
  induction suf with
  |nil=>
   intro pre s hp;refine⟨.nx s,0,fun n _ j hj=>?_⟩;obtain⟨j,rfl⟩:∃q,j=q+1:=⟨j - 1,by omega⟩;show FL n _ (.mk op nm k u ks) _ _=_;unfold FL;have e:decide ((pre.length:Int)<(ks.length:Int))=false:=decide_eq_false (by rw[hp];simp);show cond (decide ((pre.length:Int)<(ks.length:Int))) _ _=_;rw[e];rfl
  |cons x suf ihs=>
   intro pre s hp;obtain⟨N,hN⟩:=hcf x (by rw[hp];simp);obtain⟨r,M,hM⟩:=ihs (pre++[x]) (IntKind.wrap .i64 (s+f (pre.length:Int) x)) (by simp[hp]);refine⟨cond (decide (20000000<IntKind.wrap .i64 (s+f (pre.length:Int) x))) (.rt 20000001) r,N+M,fun n hn j hj=>?_⟩;obtain⟨j,rfl⟩:∃q,j=q+1:=⟨j - 1,by omega⟩;have hN:KT n x=_:=hN n (by omega);have hM:=hM n (by omega) j (by simp at hj;omega);show FL n _ (.mk op nm k u ks) (Zl n _ (.mk op nm k u ks) j) _=_;unfold FL;show cond (decide ((pre.length:Int)<(ks.length:Int))) (Option.bind (idx ks (pre.length:Int)) _) _=_;rw[(bg hp).1,(bg hp).2];simp only[cond_true,qAb,hN,abj,Tm.op];have e:(((cond (bY op) (some ((pre.length:Int)==1)) (some false)).bind fun(s4:Bool)=>cond s4 (some (IntKind.wrap .i64 (cf x*64))) (some (cf x))):Option Int)=some (f (pre.length:Int) x):=by
    show _=some (cond (bY op&&(pre.length:Int)==1) _ _);cases bY op<;>cases(pre.length:Int)==1<;>rfl
   rw[e];simp only[qAb];cases decide (20000000<IntKind.wrap .i64 (s+f (pre.length:Int) x))with
   |true=>rfl
   |false=>
    simp only[cond_false];rw[show(pre.length:Int)+1=((pre++[x]).length:Int) by simp];exact hM
 obtain⟨r,N,h⟩:=key ks [] 1 rfl;refine⟨match r with| .nx s=>s| .rt s=>s,Ev.succ ⟨N+ks.length+1,fun n hn=>?_⟩⟩;show RL n _ (.mk op nm k u ks)=_;unfold RL
 grind
theorem Dq(t:Tm):∃b,Ev (fun n=>sM n t) b:=by
 obtain⟨c,hc⟩:=aFr t;refine⟨cond (cO t) (decide (c≤20000000)) true,?_⟩;refine Ev.bind (Ev.bind (xS t) ?_) (Ev.ret _);cases cO t with
 |false=>exact Ev.ret _
 |true=>exact Ev.bind hc (Ev.ret _)
theorem Q7(env:Env):∃b,Ev (fun n=>Ah n env) b:=by
 refine⟨decide ((env.carriers.length:Int)≤100)&&decide ((env.names.length:Int)≤100),Ev.of fun n=>?_⟩;unfold Ah
 grind
theorem nL:Ev (fun n=>(jf n).bind fun x=>some x) true:=Ev.bind (a:=true) (Ev.ret _) (Ev.ret _)
theorem Iu(a b:Val):Ev (fun n=>dB n a b) (eD a b):=acB a b
theorem zo(a b:Val):eD a b=true↔a=b:=by unfold eD;rw[beq_iff_eq,gF]
structure Vald(w:S_api_World)(t:Tm)(ty:Ty)(v:Val):Prop where
 hw:gW w=true
 hm:cO t=true
 ht:HT w.env [] t ty
 hy:bX w.env [] t=.ok ty
 hp:Top ty
 he:aj (aI w) t []=.ok v
 hx:ig w t=(v,0)
theorem Vald.has{w:S_api_World}{t:Tm}{ty:Ty}{v:Val}(h:Vald w t ty v):hasB w.env w.sizes ty v=true:=Qt h.hw h.ht h.he
theorem ahN{w:S_api_World}{t:Tm}{ty:Ty}(hw:gW w=true)(hv:cO t=true)(ht:HT w.env [] t ty):Er (aj (aI w) t []):=(arq hw hv ht).er
theorem Iq{w:S_api_World}{t:Tm}(h:(ig w t).2=0):∃ty v,Vald w t ty v:=by
 unfold ig at h;cases hq:(gW w&&cO t)with
 |false=>rw[hq]at h;cases h
 |true=>
  rw[hq]at h;rw[qAa]at hq;cases he:((bT w.env t).2.2 !=0)with
  |true=>rw[he]at h;simp at he;exact absurd h he
  |false=>
   obtain⟨ty,h1,h2,h3,h4⟩:=Dt hq.1 hq.2 (by simpa using he);rw[he]at h;cases hr:aj (aI w) t []with
   |er e=>
    have:=ahN hq.1 hq.2 h3 e hr;unfold l9 at h
    grind
   |ok v=>
    refine⟨ty,v,hq.1,hq.2,h3,h4,h2,hr,?_⟩;unfold ig l9
    grind
theorem alZ{w:S_api_World}{t:Tm}{v:Val}(h:aj (aI w) t []=.ok v):l9 w t=(v,0):=by unfold l9;rw[h]
abbrev jB(op:Int)(a b:Tm):Tm:=.mk op [] 0 (.mk 0 [] []) [a,b]
abbrev u6(op:Int)(a:Tm):Tm:=.mk op [] 0 (.mk 0 [] []) [a]
end
section
open Go
theorem alD(p:Val→Bool):∀l:List Val,(l.filter fun z=>!p z).length+(l.filter p).length=l.length
 |[]=>rfl
 |x::l=>by
  have:=alD p l;simp only[List.filter_cons,qAp];cases p x<;>simp<;>omega
theorem aye(l:List Val)(hv:∀v∈l,pY v)(hl:l.length*56≤140737488355328):Ev (fun n=>Rf n l) (msV l):=by
 refine Ev.bind (a:=sortV l) (Ev.of fun n=>?_) ?_
 ·unfold kH;rw[dQ (by simpa using hl)];rfl
 ·unfold msV;cases decide (256<((sortV l).length:Int))with
  |true=>exact Ev.ret _
  |false=>
   refine Ev.bind (adp _ ?_) (Ev.ret _);refine⟨?_,?_⟩
   ·have:=eP l;omega
   ·have hm:∀v∈sortV l,pY v:=fun v h=>hv v ((aV l v).1 h);generalize sortV l=m at hm
    induction m with
    |nil=>trivial
    |cons a m ih=>exact⟨hm a (by simp),ih fun v h=>hm v (by simp[h])⟩
end
section
open Go
theorem Wx{env:Env}{t:Ty}:knows env (au t)=knows env t:=by simp[knows,au,dX,jG]
theorem azv{nm:Str}(h:ident nm=true):bA (nD nm)=true∧bA (au (nD nm))=true:=by
 constructor
 ·unfold bA;show(pf (.mk 3 nm []) 1 0).1=true;simp only[pf,kK];have hh:fT 3 nm ([]:List Ty).length 1=true:=by
   show(true&&(true&&ident nm))=true;rw[h];rfl
  rw[hh];rfl
 ·unfold bA;show(pf (.mk 5 [] [.mk 3 nm []]) 1 0).1=true;simp only[pf,kK];have hh:fT 3 nm ([]:List Ty).length (1+1)=true:=by
   show(true&&(true&&ident nm))=true;rw[h];rfl
  rw[hh];rfl
theorem awg{env:Env}(hv:aW env=true){nm:Str}{t:Ty}(h:look env nm=some t):knows env t=true∧bA t=true:=by
 have kc:∀c∈env.carriers,knows env (nD c.name)=true∧bA (nD c.name)=true∧knows env (au (nD c.name))=true∧bA (au (nD c.name))=true:=fun c hc=>by
  have hk:knows env (nD c.name)=true:=by
   show(dP env c.name&&true)=true;rw[qBH];exact qCB.2 ⟨c,hc,by simp⟩
  have:=azv (NJ hv hc).1;exact⟨hk,this.1,by rw[Wx];exact hk,this.2⟩
 rcases qAr.1 ((Ae hv).1 h)with ht|ht
 ·obtain⟨c,hc,ht⟩:=qBx.1 ht;obtain⟨k1,k2,k3,k4⟩:=kc c hc;rcases qAh.1 ht with ht|ht
  ·cases ht;exact⟨k3,k4⟩
  ·obtain⟨e,_,he⟩:=qAJ.1 ht;cases he;exact⟨k1,k2⟩
 ·obtain⟨d,hd,he⟩:=qAJ.1 ht;cases he;obtain⟨_,h1,_,h2⟩:=Po hv hd;exact⟨h2,h1⟩
theorem awO{env:Env}(hv:aW env=true){t:Tm}{ty:Ty}(ht:bX env [] t=.ok ty):bA ty=true:=by
 obtain⟨op,nm,m,u,ks⟩:=t;simp only[bX]at ht;cases h20:(op==20)with
 |true=>
  rw[h20]at ht;cases hl:nJ env [] nm with
  |none=>rw[hl]at ht;cases ht
  |some t=>rw[hl]at ht;cases ht;exact(awg hv hl).2
 |false=>
  rw[h20]at ht;cases h29:(op==29&&!(knows env u))with
  |true=>rw[h29]at ht;cases ht
  |false=>
   rw[h29]at ht;cases hk:bV env [] (bY op) nm 0 ks with
   |er e p=>rw[hk]at ht;cases ht
   |ok l=>rw[hk]at ht;exact(Qu ht).2
end
section
open Go
mutual
theorem awh:∀(t:Ty) (d c d' e:Int),(pf t d c).1=true→d'≤d→(pf t d c).2+e≤16→(pf t d' (c+e)).1=true∧(pf t d' (c+e)).2=(pf t d c).2+e
 | .mk k nm ks,d,c,d',e,h,hd,he=>by
  simp only[pf]at h he⊢;cases hb:((decide (c+1≤16)&&decide (d≤6))&&fT k nm ks.length d)with
  |false=>rw[hb]at h;cases h
  |true=>
   rw[hb]at h he;simp only[cond_true]at h he;have h1:=abd ks (d+1) (c+1) h;obtain⟨q1,q2⟩:=aAO ks (d+1) (c+1) (d'+1) e h (by omega) he;have hc:((decide (c+e+1≤16)&&decide (d'≤6))&&fT k nm ks.length d')=true:=by
    simp only[qAa,decide_eq_true_eq,fT,qAV,qDB,decide_eq_false_iff_not]at hb⊢;refine⟨⟨by omega,by omega⟩,?_,hb.2.2⟩;rcases hb.2.1 with h2|h2
    ·exact .inl h2
    ·exact .inr (by omega)
   rw[hc,show c+e+1=c+1+e by omega];exact⟨q1,q2⟩
theorem aAO:∀(ts:List Ty) (d c d' e:Int),(kK ts d c).1=true→d'≤d→(kK ts d c).2+e≤16→(kK ts d' (c+e)).1=true∧(kK ts d' (c+e)).2=(kK ts d c).2+e
 |[],d,c,d',e,h,_,he=>⟨rfl,rfl⟩
 |t::ts,d,c,d',e,h,hd,he=>by
  simp only[kK]at h he⊢;cases hb:(pf t d c).1 with
  |false=>rw[hb]at h;cases h
  |true=>
   rw[hb]at h he;simp only[cond_true]at h he;have h2:=abd ts d _ h;obtain⟨q1,q2⟩:=awh t d c d' e hb hd (by omega);rw[q1,q2];exact aAO ts d _ d' e h hd he
end
theorem ajn(t:Ty)(d c d' c':Int)(h:(pf t d c).1=true)(hd:d'≤d)(hc:c'≤c):(pf t d' c').1=true∧(pf t d' c').2=(pf t d c).2+(c' - c):=by
 have hl:=Gd t d c h;have:=awh t d c d' (c' - c) h hd (by omega);rwa[show c+(c' - c)=c' by omega]at this
theorem axn{a b:Ty}(h:bA (au (aR a b))=true):bA (au (aR b a))=true:=by
 unfold bA at *;have h':(pf (.mk 5 [] [.mk 4 [] [a,b]]) 1 0).1=true:=h;show(pf (.mk 5 [] [.mk 4 [] [b,a]]) 1 0).1=true;simp only[pf,kK]at h'⊢;rw[show((decide ((0:Int)+1≤16)&&decide ((1:Int)≤6))&&fT 5 [] [Ty.mk 4 [] [a,b]].length 1)=true from rfl,cond_true,show((decide ((0:Int)+1+1≤16)&&decide ((1:Int)+1≤6))&&fT 4 [] [a,b].length (1+1))=true from rfl,cond_true]at h';rw[show((decide ((0:Int)+1≤16)&&decide ((1:Int)≤6))&&fT 5 [] [Ty.mk 4 [] [b,a]].length 1)=true from rfl,cond_true,show((decide ((0:Int)+1+1≤16)&&decide ((1:Int)+1≤6))&&fT 4 [] [b,a].length (1+1))=true from rfl,cond_true];cases ha:(pf a (1+1+1) (0+1+1)).1 with
 |false=>rw[ha]at h';cases h'
 |true=>
  rw[ha]at h';cases hb:(pf b (1+1+1) (pf a (1+1+1) (0+1+1)).2).1 with
  |false=>rw[hb]at h';cases h'
  |true=>
   have la:=Gd a _ _ ha;have lb:=Gd b _ _ hb;obtain⟨u1,u2⟩:=ajn b _ _ _ (0+1+1) hb (qBD _) (by omega);obtain⟨v1,v2⟩:=awh a _ _ _ ((pf b (1+1+1) (0+1+1)).2 - (0+1+1)) ha (qBD _) (by omega);rw[show(0:Int)+1+1+((pf b (1+1+1) (0+1+1)).2 - (0+1+1))=(pf b (1+1+1) (0+1+1)).2 by omega]at v1;rw[u1,cond_true,v1];rfl
theorem aIp{a b:Ty}(h:bA (au (aR a b))=true):bA (au a)=true∧bA (au b)=true:=by
 have one:∀{a b:Ty},bA (au (aR a b))=true→bA (au b)=true:=fun{a b} h=>by
  unfold bA at *;have h':(pf (.mk 5 [] [.mk 4 [] [a,b]]) 1 0).1=true:=h;show(pf (.mk 5 [] [b]) 1 0).1=true;simp only[pf,kK]at h'⊢;rw[show((decide ((0:Int)+1≤16)&&decide ((1:Int)≤6))&&fT 5 [] [Ty.mk 4 [] [a,b]].length 1)=true from rfl,cond_true,show((decide ((0:Int)+1+1≤16)&&decide ((1:Int)+1≤6))&&fT 4 [] [a,b].length (1+1))=true from rfl,cond_true]at h';cases ha:(pf a (1+1+1) (0+1+1)).1 with
  |false=>rw[ha]at h';cases h'
  |true=>
   rw[ha]at h';cases hb:(pf b (1+1+1) (pf a (1+1+1) (0+1+1)).2).1 with
   |false=>rw[hb]at h';cases h'
   |true=>
    have la:=Gd a _ _ ha;have:=(ajn b _ _ (1+1) (0+1) hb (by omega) (by omega)).1;rw[show((decide ((0:Int)+1≤16)&&decide ((1:Int)≤6))&&fT 5 [] [b].length 1)=true from rfl,cond_true,this];rfl
 exact⟨one (axn h),one h⟩
theorem aM2{env:Env}{r:Tm}{t u:Ty}{op:Int}(hb:bY op=false)(h20:(op==20)=false)(h29:(op==29)=false)(hr:bX env [] r=.ok t)(ho:jT op [t]=some u)(hv:bA u=true):bX env [] (u6 op r)=.ok u:=by
 have e:bV env [] false [] 0 [r]=.ok [t]:=by simp only[bV,hr];rfl
 rw[bX,h20,h29,hb];show(match bV env [] false [] 0 [r]with| .er e p=>TR.er e p| .ok l=>rJ (jT op l))=_
 rw[e];show rJ (jT op [t])=_;rw[ho];show cond (bA u) _ _=_;rw[hv];rfl
theorem aL8{w:S_api_World}{t:Tm}{ty:Ty}{v:Val}(hw:gW w=true)(hm:cO t=true)(hy:bX w.env [] t=.ok ty)(he:aj (aI w) t []=.ok v):ig w t=(v,0):=by
 unfold ig bT;rw[hw,hm,(mR hw).1,hy,alZ he];rfl
theorem aMy{g:Str→Val}{r:Tm}{x:Val}(op:Int)(ho:op=50∨op=51∨op=52)(h:aj g r []=.ok x):aj g (u6 op r) []=(sF op x v0).thn bF:=by
 rw[bG];rcases ho with rfl|rfl|rfl
 ·show(aN [aj g r []]).thn (bB 50)=_;rw[h];rfl
 ·show(aN [aj g r []]).thn (bB 51)=_;rw[h];rfl
 ·show(aN [aj g r []]).thn (bB 52)=_;rw[h];rfl
theorem abJ{l:List Val}(h:(sortV l).length≤256):bF l=.ok (gH l):=by
 unfold bF;rw[decide_eq_false (by omega)];rfl
def swV(p:Val):Val:=aG (aQ p) (aJ p)
theorem aMb(f:Val→Val)(l:List Val):(sortV (l.map f)).length≤l.length:=by
 have:=eP (l.map f);rwa[qAi]at this
theorem aKM{l:List Val}(hl:l.Pairwise iA)(hp:∀p∈l,∃a b,p=aG a b):sortV ((sortV (l.map swV)).map swV)=l∧d9 l=bC (sortV (l.map swV)):=by
 have sw:∀a b,swV (aG a b)=aG b a:=fun _ _=>rfl;constructor
 ·rw[←jY hl]
  conv=>rhs;rw[jY hl]
  rw[xE (m:=l) fun x=>?_,jY hl];rw[jY hl];simp only[qAJ,aV];constructor
  ·rintro⟨_,⟨p,h,rfl⟩,rfl⟩;obtain⟨a,b,rfl⟩:=hp p h;exact h
  ·intro h;obtain⟨a,b,rfl⟩:=hp x h;exact⟨aG b a,⟨aG a b,h,rfl⟩,rfl⟩
 ·refine xE fun x=>?_;simp only[qAJ,aV];constructor
  ·rintro⟨p,h,rfl⟩;obtain⟨a,b,rfl⟩:=hp p h;exact⟨aG b a,⟨aG a b,h,rfl⟩,rfl⟩
  ·rintro⟨_,⟨p,h,rfl⟩,rfl⟩;obtain⟨a,b,rfl⟩:=hp p h;exact⟨aG a b,h,rfl⟩
theorem aL0{w:S_api_World}{r s:Tm}{x:Val}{op:Int}(ho:op=37∨op=38∨op=53){v:Val}(h1:aj (aI w) r []=.ok x)(he:aj (aI w) (cond (op==53) (jB op r s) (jB op s r)) []=.ok v):∃y,aj (aI w) s []=.ok y∧∃l,v=gH l∧l=(cond (op==53) (bC (x.kids.filter fun p=>aF y.kids (aJ p))) (cond (op==37) (x.kids.filter fun p=>aF y.kids (aJ p)) (x.kids.filter fun p=>!aF y.kids (aJ p)))):=by
 rcases ho with rfl|rfl|rfl
 ·rw[show cond ((37:Int)==53) (jB 37 r s) (jB 37 s r)=jB 37 s r from rfl,bG]at he;obtain⟨y,x',h2,h3,h4⟩:=seq2 (r:=aj (aI w) s []) (s:=aj (aI w) r []) (f:=bB 37) he;rw[h1]at h3;cases h3;exact⟨y,h2,_,(Br h4).1,rfl⟩
 ·rw[show cond ((38:Int)==53) (jB 38 r s) (jB 38 s r)=jB 38 s r from rfl,bG]at he;obtain⟨y,x',h2,h3,h4⟩:=seq2 (r:=aj (aI w) s []) (s:=aj (aI w) r []) (f:=bB 38) he;rw[h1]at h3;cases h3;exact⟨y,h2,_,(Br h4).1,rfl⟩
 ·rw[show cond ((53:Int)==53) (jB 53 r s) (jB 53 s r)=jB 53 r s from rfl,bG]at he;obtain⟨x',y,h3,h2,h4⟩:=seq2 (r:=aj (aI w) r []) (s:=aj (aI w) s []) (f:=bB 53) he;rw[h1]at h3;cases h3;exact⟨y,h2,_,(Br h4).1,rfl⟩
end
section
open Go
theorem law_EvalRelations(w:S_api_World)(r s:Tm)(hs:FQ w.env)(h1:iN r)(h2:iN s):Ev (fun n=>L3_EvalRelations n w r s) true:=by
 have hT:∀op a b,iN a→iN b→iN (jB op a b):=fun op a b ha hb=>⟨by simp,ha,hb,trivial⟩;have hU:∀op a,iN a→iN (u6 op a):=fun op a ha=>⟨by simp,ha,trivial⟩;obtain⟨b1,hb1⟩:=Q7 w.env;obtain⟨b2,hb2⟩:=Dq r;obtain⟨b3,hb3⟩:=Dq s;unfold L3_EvalRelations;refine Ev.bind (a:=!(b1&&(b2&&b3))) ?_ ?_
 ·refine Ev.bind hb1 ?_;cases b1 with
  |false=>exact Ev.ret _
  |true=>
   refine Ev.bind hb2 ?_;cases b2 with
   |false=>exact Ev.ret _
   |true=>exact Ev.bind hb3 (Ev.ret _)
 cases(b1&&(b2&&b3))with
 |false=>exact nL
 |true=>
  refine Ev.bind (H7 w r hs h1) (Ev.bind (J5 w.env r) ?_);cases hq:(ig w r).2 !=0 with
  |true=>exact Ev.bind (a:=true) (Ev.ret _) nL
  |false=>
   obtain⟨ty,x,q⟩:=Iq (by simpa using hq);obtain⟨hv,_,_⟩:=mR q.hw;have e:bT w.env r=(ty,[],0):=by
    unfold bT;rw[hv,q.hm,q.hy];rfl
   have xh:=q.has;have key:∀a b,ty=au (aR a b)→Ev (fun n=>Option.bind (cond ((bT w.env r).2.2 !=0) (some true) (cond ((bT w.env r).1.kind !=5) (some true) ((idx (bT w.env r).1.kids 0).bind fun(x22:Ty)=>some (x22.kind !=4)))) fun(s2:Bool)=>some s2) false:=fun a b e2=>by
    rw[e,e2];exact Ev.ret _
   rw[e];rcases shapes q.hp with rfl|rfl|⟨_,rfl⟩|⟨_,_,rfl⟩|rfl|⟨_,rfl⟩|⟨a,b,rfl⟩|⟨_,rfl⟩
   ·exact Ev.bind (a:=true) (Ev.ret _) nL
   ·exact Ev.bind (a:=true) (Ev.ret _) nL
   ·exact Ev.bind (a:=true) (Ev.ret _) nL
   ·exact Ev.bind (a:=true) (Ev.ret _) nL
   ·exact Ev.bind (a:=true) (Ev.ret _) nL
   ·exact Ev.bind (a:=true) (Ev.ret _) nL
   ·refine Ev.bind (a:=false) (Ev.ret _) ?_;obtain⟨l,rfl,hl,fl⟩:=iV.1 xh;rw[q.hx];have pr:∀p∈l,∃a b,p=aG a b:=fun p hp=>by
     obtain⟨u,v,e,_⟩:=qJ.1 (fl p hp);exact⟨u,v,e⟩
    have gp:Good (aR a b):=by
     rcases q.hp with h|h
     ·cases h
     ·cases h;assumption
    have l1:=hl.2;obtain⟨i1,i2⟩:=aKM hl.1 pr;refine Ev.bind (H7 w (u6 52 (u6 52 r)) hs (hU _ _ (hU _ _ h1))) (Ev.bind (H7 w (u6 50 r) hs (hU _ _ h1)) (Ev.bind (H7 w (u6 51 (u6 52 r)) hs (hU _ _ (hU _ _ h1))) ?_));refine Ev.bind (a:=false) ?_ ?_
    ·refine Ev.bind (xS (u6 52 r)) ?_;cases m1:cO (u6 52 r)with
     |false=>exact Ev.ret _
     |true=>
      refine Ev.bind (xS (u6 52 (u6 52 r))) ?_;cases m2:cO (u6 52 (u6 52 r))with
      |false=>exact Ev.ret _
      |true=>
       have vt:=awO hv q.hy;have vs:=axn vt;have t1:bX w.env [] (u6 52 r)=.ok (au (aR b a)):=aM2 rfl rfl rfl q.hy rfl vs;have t2:bX w.env [] (u6 52 (u6 52 r))=.ok (au (aR a b)):=aM2 rfl rfl rfl t1 rfl vt;have t3:bX w.env [] (u6 50 r)=.ok (au a):=aM2 rfl rfl rfl q.hy rfl (aIp vt).1;have t4:bX w.env [] (u6 51 (u6 52 r))=.ok (au a):=aM2 rfl rfl rfl t1 rfl (aIp vs).2;have B:∀m:List Val,m.length≤256→bF m=.ok (gH m):=fun m hm=>abJ (qAs (eP m) hm);have k1:aj (aI w) (u6 52 r) []=.ok (gH (l.map swV)):=(aMy 52 (.inr (.inr rfl)) q.he).trans (B _ (by rw[qAi];exact l1));have n1:(sortV (l.map swV)).length≤256:=qAs (aMb swV l) l1;have k2:aj (aI w) (u6 52 (u6 52 r)) []=.ok (mkSet l):=(aMy 52 (.inr (.inr rfl)) k1).trans ((B ((sortV (l.map swV)).map swV) (by rw[qAi];exact n1)).trans (by unfold gH;rw[i1]));have k3:aj (aI w) (u6 50 r) []=.ok (gH (d9 l)):=(aMy 50 (.inl rfl) q.he).trans (B (d9 l) (qAs (aMb aJ l) l1));have k4:aj (aI w) (u6 51 (u6 52 r)) []=.ok (gH (d9 l)):=(aMy 51 (.inr (.inl rfl)) k1).trans ((B (bC (sortV (l.map swV))) (qAs (aMb aQ _) n1)).trans (by rw[i2]));rw[aL8 q.hw m2 t2 k2,aL8 q.hw (show cO (u6 50 r)=true from m1) t3 k3,aL8 q.hw (show cO (u6 51 (u6 52 r))=true from m2) t4 k4];refine Ev.bind (Iu _ _) ?_;rw[(zo _ _).2 rfl];refine Ev.bind (Iu _ _) ?_;rw[(zo _ _).2 rfl];exact Ev.ret _
    refine Ev.bind (H7 w (jB 53 r s) hs (hT _ _ _ h1 h2)) (Ev.bind (H7 w (u6 51 (jB 37 s r)) hs (hU _ _ (hT _ _ _ h2 h1))) (Ev.bind (H7 w (jB 37 s r) hs (hT _ _ _ h2 h1)) (Ev.bind (H7 w (jB 38 s r) hs (hT _ _ _ h2 h1)) ?_)));have fs:∀p:Val→Bool,sortV (l.filter p)=l.filter p:=fun p=>jY (hl.1.sublist List.filter_sublist);refine Ev.bind (a:=false) ?_ ?_
    ·cases m1:(ig w (jB 53 r s)).2==0 with
     |false=>exact Ev.ret _
     |true=>
      cases m2:(ig w (u6 51 (jB 37 s r))).2==0 with
      |false=>exact Ev.ret _
      |true=>
       obtain⟨_,_,c1⟩:=Iq (eq_of_beq m1);obtain⟨_,_,c2⟩:=Iq (eq_of_beq m2);obtain⟨y,y1,_,rfl,rfl⟩:=aL0 (.inr (.inr rfl)) q.he c1.he;have c3:=c2.he;rw[bG]at c3;obtain⟨z,z1,z2⟩:=seq1 (r:=aj (aI w) (jB 37 s r) []) (f:=bB 51) c3;obtain⟨y',y2,_,rfl,rfl⟩:=aL0 (.inl rfl) q.he z1;rw[y1]at y2;cases y2;obtain⟨rfl,_⟩:=Br (l:=bC (sortV (l.filter fun p=>aF y.kids (aJ p)))) z2;rw[c1.hx,c2.hx];refine Ev.bind (Iu _ _) ?_;rw[(zo _ _).2 (by
        show gH (bC (l.filter fun p=>aF y.kids (aJ p)))=gH (bC (sortV (l.filter fun p=>aF y.kids (aJ p))));rw[fs])]
       exact Ev.ret _
    refine Ev.bind (a:=(LR.nx ():LR Unit Bool)) ?_ nL;cases m1:(ig w (jB 37 s r)).2==0 with
    |false=>exact Ev.ret _
    |true=>
     cases m2:(ig w (jB 38 s r)).2==0 with
     |false=>exact Ev.ret _
     |true=>
      obtain⟨_,_,c1⟩:=Iq (eq_of_beq m1);obtain⟨_,_,c2⟩:=Iq (eq_of_beq m2);obtain⟨y,y1,_,rfl,rfl⟩:=aL0 (.inl rfl) q.he c1.he;obtain⟨y',y2,_,rfl,rfl⟩:=aL0 (.inr (.inl rfl)) q.he c2.he;rw[y1]at y2;cases y2;rw[c1.hx,c2.hx];have hsum:=alD (fun p=>aF y.kids (aJ p)) l;refine Ev.bind (a:=true) (Ev.ret _) ?_;show Ev (fun n=>Option.bind (app 56 [] (sortV (l.filter fun p=>aF y.kids (aJ p)))) _) _;rw[fs,dQ (by simp;omega)];refine Ev.bind (Ev.ret _) ?_;show Ev (fun n=>Option.bind (app 56 _ (sortV (l.filter fun p=>!aF y.kids (aJ p)))) _) _;rw[fs,qAo,dQ (by omega)];refine Ev.bind (Ev.ret _) ?_;have ff:∀v∈l.filter (fun p=>aF y.kids (aJ p))++l.filter (fun p=>!aF y.kids (aJ p)),pY v:=fun v hv=>acn gp v (fl v (by
       rcases qAr.1 hv with hv|hv
       ·exact(qBa.1 hv).1
       ·exact(qBa.1 hv).1))
      have hms:msV (l.filter (fun p=>aF y.kids (aJ p))++l.filter (fun p=>!aF y.kids (aJ p)))=(mkSet l,0):=by
       have:sortV (l.filter (fun p=>aF y.kids (aJ p))++l.filter (fun p=>!aF y.kids (aJ p)))=l:=by
        refine(vw hl.1 fun z=>?_).symm;rw[qAr,qBa,qBa];cases aF y.kids (aJ z)<;>simp
       unfold msV;rw[this,decide_eq_false (by omega)];rfl
      refine Ev.bind ((aye _ ff (by rw[qAe];omega)).eq hms) ?_;refine Ev.bind (a:=false) ?_ (Ev.ret _);refine Ev.bind (Iu _ _) ?_;rw[(zo _ _).2 rfl];show Ev (fun _=>some (IntKind.wrap .i64 (((sortV (l.filter fun p=>aF y.kids (aJ p))).length:Int)+((sortV (l.filter fun p=>!aF y.kids (aJ p))).length:Int))!=(l.length:Int))) _;rw[fs,fs,wrap64 (by omega) (by omega),show((((l.filter fun p=>aF y.kids (aJ p)).length:Int)+((l.filter fun p=>!aF y.kids (aJ p)).length:Int))!=(l.length:Int))=false by rw[bne_eq_false_iff_eq];omega];exact Ev.ret _
   ·exact Ev.bind (a:=true) (Ev.ret _) nL
end
end Abs
end Go.Proofs.YthgdaonechbgmaaGreat

/-
  Calls as operations; regions whose order is fixed; the rules of statements on abstract states ('AWP'); and the contract of a function from its body. Conditions: none; lemmas over any program.
-/
import Derived.Deep.LoopGhost
import Derived.Test.YtbijdmihdagfaaaGreatDoorCAbs40ox473429
set_option linter.all false
namespace Go.Proofs.YtbijdmihdagfaaaGreatDoor
namespace Abs
section
open Go
def ah(P:Program)(f:Nat):Bool:=
 match P.funcs[f]? with
 |some fn=>!(fn.name== "runtime.NumGoroutine")&&fn.body.isSome
 |none=>false
theorem vg{P:Program}{f:Nat}{args:Array Value}{w:World}(h:ah P f=true):(callFunc f args).run P w=.ok (.enter f args) w:=by
 unfold ah at h;split at h
 ·rename_i fn hf;simp only[qAa,qAY]at h;obtain⟨h1,h2⟩:=h;have h3:fn.body.isNone=false:=by cases hb:fn.body<;>simp[hb]at h2⊢
  simp only[callFunc,Sem.run_bind,run_program,Result.andThen_ok,hf,h1,h3];rfl
 ·cases h
theorem akZ{P:Program}{o:Oper}{s:ASt}{fo:Operand}{args:Array Operand}{argTypes:Array TypeId}{f:Nat}{caps aargs:List AV}{ρ ks:List Nat}{H H':List AObj}{res:AV}
  (ho:o.op=.call {callee:=.value fo,args,argTypes}) (hf:aS s.tmps fo=.func f caps) (hok:ah P f=true) (hp:Passes s ρ ks H) (hH:H'.length=(ρ++ks).length)
  (hargs:SWs (args.toList.map (aS s.tmps)++caps) (aargs.map (ren (nm (ρ++ks) s.heap.length)))) (hc:aR P f aargs H res H'):
  og P o s (s.wr (fI (ρ++ks) (H'.map (bO (nm (ρ++ks) s.heap.length)))++aA o.dst (ren (nm (ρ++ks) s.heap.length) res))):=by
 intro C κ a w hs next Q hn
 have hrf:=hs.ev fo;rw[hf]at hrf;obtain⟨cv,e1,e2,e3⟩:=hrf.BD
 let vs:List Value:=args.toList.map a.eval++cv
 have hlen:vs.length=aargs.length:=by
  have:=hargs.len
  grind
 have hrun:(execOp a.eval o).run P w=.ok (.enter f vs.toArray) w:=by
  have e4:args.map a.eval++cv.toArray=vs.toArray:=by
   grind
  simp[execOp,ho,resolve,e1,Deferred.ofValue,invoke,vg hok,e4]
 have hrel:∀j,j<aargs.length→Rel w (ρ.map (at? κ)) (aG (Dj C.aB κ s.heap ρ) (ρ.map (at? κ)) H) (aargs.getD j .unk) (vs.getD j undef):=fun j hj=>by
  rw[JK hp];have hg:(aargs.map (ren (nm (ρ++ks) s.heap.length))).getD j .unk=ren (nm (ρ++ks) s.heap.length) (aargs.getD j .unk):=by
   grind
  have:Rel w κ (aG C.aB κ s.heap) ((args.toList.map (aS s.tmps)++caps).getD j .unk) (vs.getD j undef):=by
   by_cases hlt:j<args.toList.length
   ·have x1:(args.toList.map (aS s.tmps)++caps).getD j .unk=aS s.tmps args.toList[j]:=by
     grind
    have x2:vs.getD j undef=a.eval args.toList[j]:=by
     simp only[vs];rw[List.getD,qAe (by simpa using hlt),qAD,qAd hlt];rfl
    rw[x1,x2];exact hs.ev _
   grind
  replace this:=(hargs.get j).rel this;rw[hg]at this;exact this.wh (Y0 hs hp) _ rfl
 unfold Oper.wp;rw[hrun];refine(hc _ _ _ vs (adU hs hp) hlen hrel).mono ?_;rintro e w' ⟨v,κ',rfl,hlv,hr⟩;obtain⟨κc,h1,h2⟩:=hs.back hp hlv hH hr;refine hn κc _ _ ?_;rw[oC];exact h1.aA o.dst h2
def bF(P:Program)(c:Code)(Q:Exit→ASt→Prop)(s:ASt):Prop:=
 ∀(C:Ctx) (κ:aK) (a:Act) (w:World),Sim C κ s a w→c.wp P (fun e a' w'=>∃s' κ',Q e s'∧Sim C κ' s' a' w') a w
theorem bF.skip{P:Program}{Q:Exit→ASt→Prop}{s:ASt}(h:Q .normal s):bF P .skip Q s:=fun _ κ _ _ hs=>wp_skip ⟨s,κ,h,hs⟩
theorem bF.ret{P:Program}{Q:Exit→ASt→Prop}{s:ASt}(h:Q .ret s):bF P .ret Q s:=fun _ κ _ _ hs=>wp_ret ⟨s,κ,h,hs⟩
theorem bF.exit{P:Program}{Q:Exit→ASt→Prop}{s:ASt}{id:Nat}(h:Q (.exit id) s):bF P (.exit id) Q s:=fun _ κ _ _ hs=>wp_exit ⟨s,κ,h,hs⟩
def SC(next:ASt→Prop)(Q:Exit→ASt→Prop):Exit→ASt→Prop
 | .normal,s=>next s
 |e,s=>Q e s
theorem bF.seq{P:Program}{x y:Code}{Q:Exit→ASt→Prop}{s:ASt}(h:bF P x (SC (bF P y Q) Q) s):bF P (.seq x y) Q s:=by
 intro C κ a w hs;refine wp_seq (wp_mono (h C κ a w hs) ?_);rintro e a' w' ⟨s',κ',h1,h2⟩;cases e with
 |normal=>exact h1 C κ' a' w' h2
 |exit id=>exact⟨s',κ',h1,h2⟩
 |goto l=>exact⟨s',κ',h1,h2⟩
 |ret=>exact⟨s',κ',h1,h2⟩
 |panic c=>exact⟨s',κ',h1,h2⟩
 |outgrown=>exact⟨s',κ',h1,h2⟩
theorem bF.cond{P:Program}{c:Operand}{x y:Code}{Q:Exit→ASt→Prop}{s:ASt}{t:Bool}(hc:aS s.tmps c=.bool t)(h1:t=true→bF P x Q s)(h2:t=false→bF P y Q s):bF P (.cond c x y) Q s:=by
 intro C κ a w hs;have hr:=hs.ev c;rw[hc]at hr;exact wp_cond_split hr.Ib (fun ht=>h1 ht C κ a w hs) (fun ht=>h2 ht C κ a w hs)
def uT(id:Nat)(Q:Exit→ASt→Prop):Exit→ASt→Prop
 | .exit id',s=>if id'=id then Q .normal s else Q (.exit id') s
 |e,s=>Q e s
theorem bF.block{P:Program}{id:Nat}{c:Code}{Q:Exit→ASt→Prop}{s:ASt}(h:bF P c (uT id Q) s):bF P (.block id c) Q s:=by
 intro C κ a w hs;refine wp_block (wp_mono (h C κ a w hs) ?_);rintro e a' w' ⟨s',κ',h1,h2⟩;cases e with
 |exit id'=>
  simp only[uT]at h1;simp only[Exit.inBlock]
  grind
 |normal=>exact⟨s',κ',h1,h2⟩
 |goto l=>exact⟨s',κ',h1,h2⟩
 |ret=>exact⟨s',κ',h1,h2⟩
 |panic c=>exact⟨s',κ',h1,h2⟩
 |outgrown=>exact⟨s',κ',h1,h2⟩
theorem bF.loop{P:Program}{c:Code}{Q:Exit→ASt→Prop}{s:ASt}(I:Nat→ASt→Prop){n:Nat}(h0:I n s)(round:∀n s,I n s→bF P c (SC (fun s'=>∃m,m<n∧I m s') Q) s):bF P (.loop c) Q s:=by
 intro C κ a w hs;refine wp_loop_ghost (Q:=fun e a' w'=>∃s' κ',Q e s'∧Sim C κ' s' a' w') (fun n a w=>∃s κ,I n s∧Sim C κ s a w) n ⟨s,κ,h0,hs⟩ ?_;rintro n a w ⟨s,κ,hI,hs⟩;refine wp_mono (round n s hI C κ a w hs) ?_;rintro e a' w' ⟨s',κ',h1,h2⟩;cases e with
 |normal=>
  obtain⟨m,hm,hI'⟩:=h1;exact⟨m,hm,s',κ',hI',h2⟩
 |exit id=>exact⟨s',κ',h1,h2⟩
 |goto l=>exact⟨s',κ',h1,h2⟩
 |ret=>exact⟨s',κ',h1,h2⟩
 |panic c=>exact⟨s',κ',h1,h2⟩
 |outgrown=>exact⟨s',κ',h1,h2⟩
def bN(ops:Array Oper)(tmps:List AV)(o:Oper):Option Bool:=
 match o.guard with
 |none=>some true
 |some (j,want)=>match(ops[j]?).bind (·.dst)with
  |none=>none
  |some d=>match tmps.getD d .unk with
   | .bool b=>some (b==want)
   | .tup []=>some false
   |_=>none
theorem fJ{C:Ctx}{κ:aK}{s:ASt}{a:Act}{w:World}(hs:Sim C κ s a w){ops:Array Oper}{o:Oper}{b:Bool}(h:bN ops s.tmps o=some b):Region.wanted o (yielded ops a.tmps)=b:=by
 unfold bN at h;unfold Region.wanted;cases hg:o.guard with
 |none=>rw[hg]at h;simpa using h
 |some p=>
  obtain⟨j,want⟩:=p;rw[hg]at h;simp only at h⊢;unfold yielded;cases hd:(ops[j]?).bind (·.dst)with
  |none=>rw[hd]at h;cases h
  |some d=>
   rw[hd]at h;simp only at h;have hr:=hs.ev (.tmp d);simp only[aS,Act.eval]at hr;split at h
   ·rename_i x hx;rw[hx]at hr;have e:=hr.Ib;have hlt:d<a.tmps.size:=by
     apply qAl;intro hn;rw[qAm,Array.getElem?_eq_none (qAP hn)]at e;cases e
    simp_all
   ·rename_i hx;rw[hx]at hr;obtain⟨vs,e,h1,_⟩:=hr.Zt;have:vs=[]:=qAO.1 h1;by_cases hlt:d<a.tmps.size
    ·simp_all
    grind
   ·cases h
def amo(P:Program)(ops:Array Oper)(o:Oper)(s s':ASt):Prop:=
 (bN ops s.tmps o=some true∧og P o s s')∨(bN ops s.tmps o=some false∧s'=s.wr (aA o.dst (.tup [])))
inductive ASteps(P:Program)(ops:Array Oper):List Oper→ASt→ASt→Prop where
 |nil (s:ASt):ASteps P ops [] s s
 |cons {o:Oper} {l:List Oper} {s s1 s2:ASt}:amo P ops o s s1→ASteps P ops l s1 s2→ASteps P ops (o::l) s s2
theorem WC{P:Program}{ops:Array Oper}{Q:Exit→Act→World→Prop}{l:List Oper}{s s':ASt}(h:ASteps P ops l s s'):∀(C:Ctx) (κ:aK) (a:Act) (w:World),Sim C κ s a w→(∀κ' a' w',Sim C κ' s' a' w'→Q .normal a' w')→wpList P ops Q l a w:=by
 induction h with
 |nil s=>intro C κ a w hs hq;exact hq κ a w hs
 |cons h1 _ ih=>
  intro C κ a w hs hq;simp only[wpList];rcases h1 with⟨hw,ht⟩|⟨hw,rfl⟩
  ·rw[fJ hs hw];exact .inl (ht C κ a w hs _ _ fun κ' a' w' hs'=>ih C κ' a' w' hs' hq)
  ·rw[fJ hs hw];exact ih C κ _ w (hs.aA _ gY) hq
theorem Sim.reserve{C:Ctx}{κ:aK}{s:ASt}{a:Act}{w:World}(h:Sim C κ s a w)(n:Nat):Sim C (κ++List.replicate n none) {s with heap:=s.heap++List.replicate n .res} a w:=by
 have hat:∀l,at? (κ++List.replicate n none) l=at? κ l:=fun l=>by
  unfold at?
  grind
 have hob:∀l,l<s.heap.length→obj? (s.heap++List.replicate n .res) l=obj? s.heap l:=fun l hl=>by
  unfold obj?;rw[qAe hl]
 have hlt:∀l b,at? κ l=some b→l<s.heap.length:=fun l b hb=>by rw[←h.klen];exact lt_of_at? hb
 refine h.step (κ':=κ++List.replicate n none) (H':=s.heap++List.replicate n .res) (Evo.refl _ _) (fun l b hb=>by rw[hat];exact hb) (by simp[h.klen]) ?_ ?_ ?_ ?_ ?_ (fun _ _=>rfl) rfl rfl rfl
 ·rintro b o (hb|⟨l,h1,h2⟩) _
  ·exact .inl hb
  ·rw[hat]at h1;rw[hob l (hlt l b h1)]at h2;exact .inr ⟨l,h1,h2⟩
 ·grind
 ·intro l l' b h1 h2 h3 h4;rw[hat]at h1 h2;rw[hob l (hlt l b h1)]at h3;rw[hob l' (hlt l' b h2)]at h4;exact h.apart l l' b h1 h2 h3 h4
 ·intro l b h1;rw[hat]at h1;exact h.bound l b h1
 ·intro l h1;rw[hat];by_cases hl:l<s.heap.length
  ·rw[hob l hl]at h1;exact h.resv l h1
  ·exact at?_none_of_le (by rw[h.klen];exact qAP hl)
def ASt.reserve(s:ASt)(n:Nat):ASt:={s with heap:=s.heap++List.replicate n .res}
theorem bF.region{P:Program}{id:Nat}{l:List Oper}{Q:Exit→ASt→Prop}{s s':ASt}(n:Nat)(h:ASteps P l.toArray l (s.reserve n) s')(hq:Q .normal s'):bF P (.region id l.toArray false) Q s:=by
 intro C κ a w hs;exact wp_region_lit (WC h C _ a w (hs.reserve n) fun κ' a' w' hs'=>⟨s',κ',hq,hs'⟩)
theorem nY{α β:Type}{f g:α→β}:∀(l:List α),(∀x∈l,f x=g x)→l.map f=l.map g
 |[],_=>rfl
 |x::l,h=>by simp only[qAF];rw[h x (by simp),nY l (fun y hy=>h y (by simp[hy]))]
theorem PU{ρ ρ':Operand→AV}(o:Option Operand)(h:∀x,o=some x→ρ' x=ρ x):o.map ρ'=o.map ρ:=by
 cases o with
 |none=>rfl
 |some x=>simp;rw[h x rfl]
theorem adn{P:Program}{op:Op}{ρ ρ':Operand→AV}(h:∀x∈op.operands,ρ' x=ρ x):au P op ρ'=au P op ρ:=by
 cases op with
 |move x=>simp only[au];rw[h x (by simp[Op.operands])]
 |assign x=>simp only[au];rw[h x (by simp[Op.operands])]
 |pick c x y=>simp only[au];rw[h c (by simp[Op.operands]),h x (by simp[Op.operands]),h y (by simp[Op.operands])]
 |nilCheck x=>simp only[au];rw[h x (by simp[Op.operands])]
 |binOp op t x y t2=>simp only[au];rw[h x (by simp[Op.operands]),h y (by simp[Op.operands])]
 |unOp op t x=>simp only[au];rw[h x (by simp[Op.operands])]
 |fieldAddr s x f=>simp only[au];rw[h x (by simp[Op.operands])]
 |field s x f=>simp only[au];rw[h x (by simp[Op.operands])]
 |indexAddr t x i=>simp only[au];rw[h x (by simp[Op.operands]),h i (by simp[Op.operands])]
 |index t x i=>simp only[au];rw[h x (by simp[Op.operands]),h i (by simp[Op.operands])]
 |extract x i=>simp only[au];rw[h x (by simp[Op.operands])]
 |slice t x lo hi mx=>
  cases mx with
  |some m=>rfl
  |none=>
   simp only[au];rw[h x (by simp[Op.operands]),PU lo (fun y hy=>h y (by subst hy;simp[Op.operands])),PU hi (fun y hy=>h y (by subst hy;simp[Op.operands]))]
 |build t parts=>
  simp only[au];rw[nY (f:=fun p=>(p.1,ρ' p.2)) (g:=fun p=>(p.1,ρ p.2)) parts.toList (fun p hp=>by
   rw[h p.2 (by simp only[Op.operands];exact List.mem_toArray.2 (qBk.2 ⟨p,hp,rfl⟩))])]
 |makeFunc fn first captured=>
  cases fn with
  |func f=>
   simp only[au];rw[nY (f:=ρ') (g:=ρ) captured.toList (fun x hx=>h x (by simp only[Op.operands];exact qBw.2 (.inr (qBf.1 hx))))]
  |_=>rfl
 |load t x=>simp only[au];rw[h x (by simp[Op.operands])]
 |convert s t x=>simp only[au];rw[h x (by simp[Op.operands])]
 |call c=>
  obtain⟨callee,args,argTypes⟩:=c;cases callee with
  |builtin b=>
   cases b<;>try rfl
   case len=>
    simp only[au];split
    ·rename_i x t ha ht;rw[h x (by simp only[Op.operands,Call.operands];exact qBw.2 (.inr (qBf.1 (by rw[ha];simp))))]
    ·rfl
   case max=>
    simp only[au];split
    ·rename_i x y ha;rw[h x (by simp only[Op.operands,Call.operands];exact qBw.2 (.inr (qBf.1 (by rw[ha];simp)))),
      h y (by simp only[Op.operands,Call.operands];exact qBw.2 (.inr (qBf.1 (by rw[ha];simp))))]
    ·rfl
   case min=>
    simp only[au];split
    ·rename_i x y ha;rw[h x (by simp only[Op.operands,Call.operands];exact qBw.2 (.inr (qBf.1 (by rw[ha];simp)))),
      h y (by simp only[Op.operands,Call.operands];exact qBw.2 (.inr (qBf.1 (by rw[ha];simp))))]
    ·rfl
  |_=>rfl
 |_=>rfl
theorem Qi{P:Program}{k:Nat}{o:Oper}{ρ ρ':Operand→AV}{σ σ':Nat→AObj}{rd:List Nat}{ws:List Wr}(h:aH P k o ρ σ=some (rd,ws))(hρ:∀x∈o.op.operands,ρ' x=ρ x)(hσ:∀l∈rd,σ' l=σ l):
  aH P k o ρ' σ'=some (rd,ws):=by
 obtain⟨dst,op,ty,pos,after,guard⟩:=o;unfold aH at h⊢;rw[adn hρ];cases hp:au P op ρ with
 |some v=>simp only[hp]at h⊢;exact h
 |none=>
  simp only[hp]at h⊢;simp only at hρ;cases op<;>(try simp only[reduceCtorEq]at h⊢)
  case load t x=>
   rw[hρ x (by simp[Op.operands])];split at h
   ·rename_i l off hx;split at h
    ·rename_i cs hl;have hrd:rd=[l]:=by
      cases hv:gq P t (cs.drop off)with
      |none=>rw[hv]at h;cases h
      |some v=>rw[hv]at h;simp at h;exact h.1.symm
     rw[hσ l (by rw[hrd];simp),hl];exact h
    ·rename_i z es hl;split at h
     ·rename_i hc;have hrd:rd=[l]:=by
       cases hv:gq P t (es.getD (off/z) [])with
       |none=>rw[hv]at h;cases h
       |some v=>rw[hv]at h;simp at h;exact h.1.symm
      rw[hσ l (by rw[hrd];simp),hl];simp only;rw[if_pos hc];exact h
     ·cases h
    ·cases h
   ·cases h
  case store t x y=>
   rw[hρ x (by simp[Op.operands]),hρ y (by simp[Op.operands])];split at h
   ·rename_i l off vs hx hy;split at h
    ·rename_i cs hl;split at h
     ·rename_i hc;have hrd:rd=[l]:=by simp at h;exact h.1.symm
      rw[hσ l (by rw[hrd];simp),hl];simp only;rw[if_pos hc];exact h
     ·cases h
    ·rename_i z es hl;split at h
     ·rename_i hc;have hrd:rd=[l]:=by simp at h;exact h.1.symm
      rw[hσ l (by rw[hrd];simp),hl];simp only;rw[if_pos hc];exact h
     ·rename_i hn;split at h
      ·rename_i hc;have hrd:rd=[l]:=by simp at h;exact h.1.symm
       rw[hσ l (by rw[hrd];simp),hl];simp only;rw[if_neg hn,if_pos hc];exact h
      ·cases h
    ·cases h
   ·cases h
  case binOp b t x y t2=>
   rw[hρ x (by simp[Op.operands])];exact h
  case alloc t=>
   split at h
   ·rename_i hk;have hrd:rd=[k]:=by
     cases hz:bE P t with
     |none=>rw[hz]at h;cases h
     |some z=>rw[hz]at h;simp at h;exact h.1.symm
    rw[hσ k (by rw[hrd];simp),if_pos hk];exact h
   ·cases h
  case box t x=>
   rw[hρ x (by simp[Op.operands])];split at h
   ·rename_i hk;have hrd:rd=[k]:=by
     cases hz:bY (ρ x)with
     |none=>rw[hz]at h;cases h
     |some z=>rw[hz]at h;simp at h;exact h.1.symm
    rw[hσ k (by rw[hrd];simp),if_pos hk];exact h
   ·cases h
  case makeMap t r=>
   cases r with
   |none=>
    simp only at h⊢;split at h
    ·rename_i hk;have hrd:rd=[k]:=by simp at h;exact h.1.symm
     rw[hσ k (by rw[hrd];simp),if_pos hk];exact h
    ·cases h
   |some x=>cases h
  case makeSlice t x y=>
   rw[hρ x (by simp[Op.operands]),hρ y (by simp[Op.operands])];split at h
   ·rename_i e sz by_ kl l kc c he hx hy;split at h
    ·rename_i z hz;split at h
     ·rename_i hc;have hrd:rd=[k]:=by simp at h;exact h.1.symm
      rw[hσ k (by rw[hrd];simp)];rw[if_pos hc];exact h
     ·cases h
    ·cases h
   ·cases h
  case buildSlice t len parts=>
   have he:(parts.toList.map fun p=>(p.1,ρ' p.2))=parts.toList.map fun p=>(p.1,ρ p.2):=nY _ (fun p hp=>by
    rw[hρ p.2 (by simp only[Op.operands];exact List.mem_toArray.2 (qBk.2 ⟨p,hp,rfl⟩))])
   rw[he];split at h
   ·rename_i e sz by_ hel;split at h
    ·rename_i z hz;split at h
     ·rename_i hc;have hrd:rd=[k]:=by
       cases hf:iA (fun i=>some (i*sz,sz)) ((List.replicate len z).flatten) (parts.toList.map fun p=>(p.1,ρ p.2))with
       |none=>rw[hf]at h;cases h
       |some cs=>rw[hf]at h;simp at h;exact h.1.symm
      rw[hσ k (by rw[hrd];simp),if_pos hc];exact h
     ·cases h
    ·cases h
   ·cases h
  case call c=>
   obtain⟨callee,args,argTypes⟩:=c;cases callee with
   |builtin b=>
    cases b<;>(try simp only[reduceCtorEq]at h⊢);split at h
    ·rename_i x y t t2 ha ht;have hx:=hρ x (by simp only[Op.operands,Call.operands];exact qBw.2 (.inr (qBf.1 (by rw[ha];simp))));have hy:=hρ y (by simp only[Op.operands,Call.operands];exact qBw.2 (.inr (qBf.1 (by rw[ha];simp))));rw[hx,hy];split at h
     ·rename_i e sz by_ es ys tag hel h2 hxx hyy
      try simp only[hel,h2,hxx,hyy]
      split at h
      ·rename_i hc;have hrd:rd=[k]:=by simp at h;exact h.1.symm
       rw[hσ k (by rw[hrd];simp),if_pos hc];exact h
      ·cases h
     ·rename_i e sz by_ es l z ys tag hel h2 hxx hyy
      try simp only[hel,h2,hxx,hyy]
      split at h
      ·rename_i n hl;split at h
       ·rename_i hc;have hrd:rd=[l,k]:=by simp at h;exact h.1.symm
        rw[hσ k (by rw[hrd];simp),hσ l (by rw[hrd];simp),hl];simp only;rw[if_pos hc];exact h
       ·cases h
      ·cases h
     ·rename_i e sz by_ l z n ys tag hel h2 hxx hyy
      try simp only[hel,h2,hxx,hyy]
      split at h
      ·rename_i z' es hl;split at h
       ·rename_i hc;have hrd:rd=[l,k]:=by simp at h;exact h.1.symm
        rw[hσ k (by rw[hrd];simp),hσ l (by rw[hrd];simp),hl];simp only;rw[if_pos hc];exact h
       ·cases h
      ·cases h
     ·rename_i e sz by_ es n ys tag hel h2 hxx hyy
      try simp only[hel,h2,hxx,hyy]
      split at h
      ·rename_i hc;rw[if_pos hc];exact h
      ·rename_i hn;split at h
       ·rename_i hc;have hrd:rd=[k]:=by simp at h;exact h.1.symm
        rw[hσ k (by rw[hrd];simp),if_neg hn,if_pos hc];exact h
       ·cases h
     ·cases h
    ·cases h
   |_=>cases h
  case lookup t m key ok=>
   rw[hρ m (by simp[Op.operands]),hρ key (by simp[Op.operands])];split at h
   ·rename_i e l k' ht hm hk
    try simp only[ht,hm,hk]
    split at h
    ·rename_i es z hl hz;have hrd:rd=[l]:=by simp at h;exact h.1.symm
     rw[hσ l (by rw[hrd];simp),hl,hz];exact h
    ·cases h
   ·cases h
  case mapUpdate t m key x=>
   rw[hρ m (by simp[Op.operands]),hρ key (by simp[Op.operands]),hρ x (by simp[Op.operands])];split at h
   ·rename_i e l k' ht hm hk
    try simp only[ht,hm,hk]
    split at h
    ·rename_i es hl;split at h
     ·rename_i hc;have hrd:rd=[l]:=by simp at h;exact h.1.symm
      rw[hσ l (by rw[hrd];simp),hl];simp only;rw[if_pos hc];exact h
     ·cases h
    ·cases h
   ·cases h
structure Eff where
 rs:List Nat
 ro:List Nat
 ws:List Wr
def dX(ws:List Wr):List Nat:=ws.filterMap fun| .slot n _=>some n|_=>none
def dV(ws:List Wr):List Nat:=ws.filterMap fun| .obj n _=>some n|_=>none
def jQ:List Wr→Nat→Option AV
 |[],_=>none
 | .slot m v::ws,n=>(jQ ws n).or (if m=n then some v else none)
 | .obj _ _::ws,n=>jQ ws n
def jH:List Wr→Nat→Option AObj
 |[],_=>none
 | .obj m v::ws,n=>(jH ws n).or (if m=n then some v else none)
 | .slot _ _::ws,n=>jH ws n
theorem aM(ws:List Wr):∀s:ASt,(s.wr ws).tmps.length=s.tmps.length∧(s.wr ws).heap.length=s.heap.length:=by
 induction ws with
 |nil=>intro s;exact⟨rfl,rfl⟩
 |cons w ws ih=>
  intro s;have:=ih (s.TK w);refine⟨this.1.trans ?_,this.2.trans ?_⟩<;>cases w<;>simp[ASt.TK,ASt.setSlot,ASt.setObj]
theorem iY(ws:List Wr)(n:Nat):∀s:ASt,n<s.tmps.length→(s.wr ws).tmps.getD n .unk=(jQ ws n).getD (s.tmps.getD n .unk):=by
 induction ws with
 |nil=>intro s _;rfl
 |cons w ws ih=>
  intro s hn;have h1:=ih (s.TK w) (by cases w<;>simpa[ASt.TK,ASt.setSlot,ASt.setObj]using hn);refine h1.trans ?_;cases w with
  |slot m v=>
   simp only[jQ];cases jQ ws n with
   |some x=>rfl
   |none=>
    by_cases e:m=n
    ·subst e;rw[if_pos rfl];exact iJ hn
    ·rw[if_neg e];exact kI e
  |obj m v=>rfl
theorem gy(ws:List Wr)(n:Nat):∀s:ASt,n<s.heap.length→obj? (s.wr ws).heap n=(jH ws n).getD (obj? s.heap n):=by
 induction ws with
 |nil=>intro s _;rfl
 |cons w ws ih=>
  intro s hn;have h1:=ih (s.TK w) (by cases w<;>simpa[ASt.TK,ASt.setSlot,ASt.setObj]using hn);refine h1.trans ?_;cases w with
  |obj m v=>
   simp only[jH];cases jH ws n with
   |some x=>rfl
   |none=>
    by_cases e:m=n
    ·subst e;rw[if_pos rfl];exact obj?_set_same hn
    ·rw[if_neg e];exact obj?_set_other e
  |slot m v=>rfl
theorem u6(a b:List Wr)(n:Nat):jQ (a++b) n=(jQ b n).or (jQ a n):=by
 induction a with
 |nil=>simp[jQ]
 |cons w a ih=>cases w<;>simp[jQ,ih,Option.or_assoc]
theorem uS(a b:List Wr)(n:Nat):jH (a++b) n=(jH b n).or (jH a n):=by
 induction a with
 |nil=>simp[jH]
 |cons w a ih=>cases w<;>simp[jH,ih,Option.or_assoc]
theorem FC{ws:List Wr}{n:Nat}(h:n∉dX ws):jQ ws n=none:=by
 induction ws with
 |nil=>rfl
 |cons w ws ih=>
  cases w with
  |slot m v=>
   simp only[dX,qBG,qAh,not_or]at h;simp only[jQ,ih h.2,qCk,if_neg (qBl h.1)]
  |obj m v=>simp only[dX]at h;exact ih h
theorem E8{ws:List Wr}{n:Nat}(h:n∉dV ws):jH ws n=none:=by
 induction ws with
 |nil=>rfl
 |cons w ws ih=>
  cases w with
  |obj m v=>
   simp only[dV,qBG,qAh,not_or]at h;simp only[jH,ih h.2,qCk,if_neg (qBl h.1)]
  |slot m v=>simp only[dV]at h;exact ih h
theorem ASt.ext'{s t:ASt}(h1:s.tmps.length=t.tmps.length)(h2:s.heap.length=t.heap.length)(h3:∀n,n<s.tmps.length→s.tmps.getD n .unk=t.tmps.getD n .unk)(h4:∀n,n<s.heap.length→obj? s.heap n=obj? t.heap n):s=t:=by
 obtain⟨a,b⟩:=s;congr 1
 ·apply qCB h1
  grind
 ·apply qCB h2;intro n g1 g2;have:=h4 n g1;simpa[obj?,g1,g2]using this
def aI(D:Nat→Bool):Nat→List Eff→List Wr
 |_,[]=>[]
 |k,e::es=>(if D k then e.ws else[])++aI D (k+1) es
theorem tN{D D':Nat→Bool}{n:Nat}:∀(es:List Eff) (k:Nat),(∀i e,es[i]? =some e→n∈dX e.ws→D (k+i)=D' (k+i))→jQ (aI D k es) n=jQ (aI D' k es) n:=by
 intro es
 induction es with
 |nil=>intro k _;rfl
 |cons e es ih=>
  intro k h;simp only[aI,u6];rw[ih (k+1) (fun i f hf hn=>by have:=h (i+1) f (by simpa using hf) hn;rwa[show k+(i+1)=k+1+i from by omega]at this)];by_cases hn:n∈dX e.ws
  ·have:=h 0 e (by simp) hn;rw[qAJ]at this;rw[this]
  ·have:=FC hn;cases D k<;>cases D' k<;>simp[this,jQ]
theorem nW{D D':Nat→Bool}{n:Nat}:∀(es:List Eff) (k:Nat),(∀i e,es[i]? =some e→n∈dV e.ws→D (k+i)=D' (k+i))→jH (aI D k es) n=jH (aI D' k es) n:=by
 intro es
 induction es with
 |nil=>intro k _;rfl
 |cons e es ih=>
  intro k h;simp only[aI,uS];rw[ih (k+1) (fun i f hf hn=>by have:=h (i+1) f (by simpa using hf) hn;rwa[show k+(i+1)=k+1+i from by omega]at this)];by_cases hn:n∈dV e.ws
  ·have:=h 0 e (by simp) hn;rw[qAJ]at this;rw[this]
  ·have:=E8 hn;cases D k<;>cases D' k<;>simp[this,jH]
theorem FN{ws:List Wr}{n:Nat}(h:n∈dX ws):∃v,jQ ws n=some v:=by
 induction ws with
 |nil=>cases h
 |cons w ws ih=>
  cases w with
  |slot m v=>
   simp only[dX,qBG,qAh]at h;simp only[jQ];cases hl:jQ ws n with
   |some x=>exact⟨x,rfl⟩
   |none=>
    rcases h with h|h
    ·simp_all
    ·obtain⟨x,hx⟩:=ih h;rw[hl]at hx;cases hx
  |obj m v=>simp only[dX]at h;exact ih h
theorem Vl{D:Nat→Bool}{n:Nat}:∀(es:List Eff) (k i:Nat) (e:Eff),es[i]? =some e→D (k+i)=true→n∈dX e.ws→(∀j f,es[j]? =some f→i<j→D (k+j)=true→n∉dX f.ws)→jQ (aI D k es) n=jQ e.ws n:=by
 intro es
 induction es with
 |nil=>intro k i e h;simp at h
 |cons f es ih=>
  intro k i e hi hD hw hother;simp only[aI,u6];cases i with
  |zero=>
   simp at hi;subst hi;rw[qAJ]at hD;have hrest:jQ (aI D (k+1) es) n=jQ (aI (fun _=>false) (k+1) es) n:=tN es (k+1) (fun i g hg hn=>by
    cases hDg:D (k+1+i)with
    |false=>rfl
    |true=>exact(hother (i+1) g (by simpa using hg) (by omega) (by rw[show k+(i+1)=k+1+i from by omega];exact hDg) hn).elim)
   have hz:∀(es:List Eff) (k:Nat),aI (fun _=>false) k es=[]:=fun es=>by
    induction es with
    |nil=>intro k;rfl
    |cons e es ih=>intro k;simp[aI,ih]
   rw[hrest,hz,hD];simp[jQ]
  |succ i=>
   have:=ih (k+1) i e (by simpa using hi) (by rw[show k+1+i=k+(i+1)from by omega];exact hD) hw (fun j g hg hlt hDg=>hother (j+1) g (by simpa using hg) (by omega) (by rw[show k+(j+1)=k+1+j from by omega];exact hDg));rw[this];obtain⟨v,hv⟩:=FN hw;rw[hv];rfl
theorem FJ{ws:List Wr}{n:Nat}(h:n∈dV ws):∃v,jH ws n=some v:=by
 induction ws with
 |nil=>cases h
 |cons w ws ih=>
  cases w with
  |obj m v=>
   simp only[dV,qBG,qAh]at h;simp only[jH];cases hl:jH ws n with
   |some x=>exact⟨x,rfl⟩
   |none=>
    rcases h with h|h
    ·simp_all
    ·obtain⟨x,hx⟩:=ih h;rw[hl]at hx;cases hx
  |slot m v=>simp only[dV]at h;exact ih h
theorem UG{D:Nat→Bool}{n:Nat}:∀(es:List Eff) (k i:Nat) (e:Eff),es[i]? =some e→D (k+i)=true→n∈dV e.ws→(∀j f,es[j]? =some f→i<j→D (k+j)=true→n∉dV f.ws)→jH (aI D k es) n=jH e.ws n:=by
 intro es
 induction es with
 |nil=>intro k i e h;simp at h
 |cons f es ih=>
  intro k i e hi hD hw hother;simp only[aI,uS];cases i with
  |zero=>
   simp at hi;subst hi;rw[qAJ]at hD;have hrest:jH (aI D (k+1) es) n=jH (aI (fun _=>false) (k+1) es) n:=nW es (k+1) (fun i g hg hn=>by
    cases hDg:D (k+1+i)with
    |false=>rfl
    |true=>exact(hother (i+1) g (by simpa using hg) (by omega) (by rw[show k+(i+1)=k+1+i from by omega];exact hDg) hn).elim)
   have hz:∀(es:List Eff) (k:Nat),aI (fun _=>false) k es=[]:=fun es=>by
    induction es with
    |nil=>intro k;rfl
    |cons e es ih=>intro k;simp[aI,ih]
   rw[hrest,hz,hD];simp[jH]
  |succ i=>
   have:=ih (k+1) i e (by simpa using hi) (by rw[show k+1+i=k+(i+1)from by omega];exact hD) hw (fun j g hg hlt hDg=>hother (j+1) g (by simpa using hg) (by omega) (by rw[show k+(j+1)=k+1+j from by omega];exact hDg));rw[this];obtain⟨v,hv⟩:=FJ hw;rw[hv];rfl
structure Agree(t s:ASt)(e:Eff):Prop where
 tl:t.tmps.length=s.tmps.length
 hl:t.heap.length=s.heap.length
 rs:∀n∈e.rs,t.tmps.getD n .unk=s.tmps.getD n .unk
 ro:∀l∈e.ro,obj? t.heap l=obj? s.heap l
def tX(P:Program)(ops:Array Oper)(o:Oper)(s:ASt)(e:Eff):Prop:=∀t,Agree t s e→amo P ops o t (t.wr e.ws)
inductive ATr(P:Program)(ops:Array Oper):List Oper→List Eff→ASt→ASt→Prop where
 |nil (s:ASt):ATr P ops [] [] s s
 |cons {o:Oper} {l:List Oper} {e:Eff} {es:List Eff} {s s':ASt}:tX P ops o s e→ATr P ops l es (s.wr e.ws) s'→ATr P ops (o::l) (e::es) s s'
theorem ATr.steps{P:Program}{ops:Array Oper}{l:List Oper}{es:List Eff}{s s':ASt}(h:ATr P ops l es s s'):ASteps P ops l s s':=by
 induction h with
 |nil s=>exact .nil s
 |cons he _ ih=>exact .cons (he _ ⟨rfl,rfl,fun _ _=>rfl,fun _ _=>rfl⟩) ih
def gT(o:Oper):List Nat:=(o.after.toList.filter (Region.binds .any)).map (·.on)
def ku:List Oper→List (List Nat)→List (List Nat)
 |[],acc=>acc
 |o::l,acc=>ku l (acc++[gT o++(gT o).flatMap fun p=>acc.getD p []])
def bG(e f:Eff):Bool:=
 (dX e.ws).any (fun n=>f.rs.contains n ||(dX f.ws).contains n) ||(dX f.ws).any (fun n=>e.rs.contains n) ||
 (dV e.ws).any (fun n=>f.ro.contains n ||(dV f.ws).contains n) ||(dV f.ws).any (fun n=>e.ro.contains n)
def fG:Eff:=⟨[],[],[]⟩
def fC(l:List Oper)(es:List Eff):Bool:=
 (List.range l.length).all fun j=>(gT (l.getD j default)).all (fun p=>decide (p<j))&&(List.range j).all fun i=>!(bG (es.getD i fG) (es.getD j fG)) ||((ku l []).getD j []).contains i
theorem qI{D:Nat→Prop}:∀(l:List Oper) (acc:List (List Nat)),(∀j i,D j→i∈acc.getD j []→D i)→(∀j o,l[j]? =some o→D (acc.length+j)→∀p∈gT o,D p)→∀j i,D j→i∈(ku l acc).getD j []→D i:=by
 intro l
 induction l with
 |nil=>intro acc h _ j i hj hi;exact h j i hj hi
 |cons o l ih=>
  intro acc h hc j i hj hi;simp only[ku]at hi;refine ih _ ?_ ?_ j i hj hi
  ·intro j i hj hi;by_cases hlt:j<acc.length
   ·rw[List.getD,qAe hlt]at hi;exact h j i hj hi
   ·by_cases he:j=acc.length
    ·subst he;rw[List.getD,qAi (qAr _)]at hi;simp only[qDG,qAG,qAq,qAA,qCC]at hi;have hp:=hc 0 o (by simp) hj
     grind
    grind
  ·intro j o' hj' hD p hp;refine hc (j+1) o' (by simpa using hj') ?_ p hp
   grind
theorem ATr.spec{P:Program}{ops:Array Oper}{l:List Oper}{es:List Eff}{s s':ASt}(h:ATr P ops l es s s'):l.length=es.length∧s'=s.wr (aI (fun _=>true) 0 es)∧
  ∀i o e,l[i]? =some o→es[i]? =some e→tX P ops o (s.wr (aI (fun j=>decide (j<i)) 0 es)) e:=by
 have hz:∀(es:List Eff) (k:Nat),aI (fun _=>false) k es=[]:=fun es=>by
  induction es with
  |nil=>intro k;rfl
  |cons e es ih=>intro k;simp[aI,ih]
 have hcongr:∀(D D':Nat→Bool) (es:List Eff) (k k':Nat),(∀i,D (k+i)=D' (k'+i))→aI D k es=aI D' k' es:=fun D D' es=>by
  induction es with
  |nil=>intro k k' _;rfl
  |cons e es ih=>
   intro k k' h;simp only[aI];have h0:=h 0;rw[qAJ,qAJ]at h0;rw[h0,ih (k+1) (k'+1) (fun i=>by have:=h (i+1);rwa[show k+(i+1)=k+1+i from by omega,show k'+(i+1)=k'+1+i from by omega]at this)]
 induction h with
 |nil s=>exact⟨rfl,rfl,fun i o e h=>by simp at h⟩
 |@cons o l e es s s' he _ ih=>
  obtain⟨h1,h2,h3⟩:=ih;refine⟨by simp[h1],?_,fun i o' e' hi hi'=>?_⟩
  ·rw[h2];simp only[aI,oC]
   grind
  ·cases i with
   |zero=>
    simp at hi hi';subst hi hi';have:aI (fun j=>decide (j<0)) 0 (e::es)=[]:=by
     simp_all
    rw[this];exact he
   |succ i=>
    have:=h3 i o' e' (by simpa using hi) (by simpa using hi');have hf:aI (fun j=>decide (j<i+1)) 0 (e::es)=e.ws++aI (fun j=>decide (j<i)) 0 es:=by
     simp only[aI]
     grind
    rw[hf,oC];exact this
theorem yY{e f:Eff}{n:Nat}(h:bG e f=false)(he:n∈dX e.ws):n∉f.rs∧n∉dX f.ws:=by
 simp only[bG]at h
 grind
theorem yU{e f:Eff}{n:Nat}(h:bG e f=false)(he:n∈dV e.ws):n∉f.ro∧n∉dV f.ws:=by
 simp only[bG]at h
 grind
theorem FY{listed:Array Bool}{i:Nat}(hi:i<listed.size)(hf:listed.getD i true=false):((listed.setIfInBounds i true).toList.filter (!·)).length+1=(listed.toList.filter (!·)).length:=by
 have key:∀(l:List Bool) (i:Nat),i<l.length→l.getD i true=false→((l.set i true).filter (!·)).length+1=(l.filter (!·)).length:=by
  intro l
  induction l with
  |nil=>intro i hi;simp at hi
  |cons x l ih=>
   intro i hi hg;cases i with
   |zero=>simp[List.getD]at hg;subst hg;simp
   |succ i=>
    grind
 simp_all
theorem aiw{P:Program}{l:List Oper}{es:List Eff}{s s':ASt}{C:Ctx}{Q:Exit→Act→World→Prop}(htr:ATr P l.toArray l es s s')(hok:fC l es=true)(hq:∀κ' a' w',Sim C κ' s' a' w'→Q .normal a' w'):
  ∀(fuel:Nat) (listed:Array Bool) (κ:aK) (a:Act) (w:World),listed.size=l.length→(listed.toList.filter (!·)).length=fuel→
   (∀j o,l[j]? =some o→listed.getD j false=true→∀p∈gT o,listed.getD p false=true)→
   Sim C κ (s.wr (aI (fun i=>listed.getD i false) 0 es)) a w→wpAny P .any l.toArray Q fuel listed a w:=by
 obtain⟨hlen,hs',heff⟩:=htr.spec;have hord:∀j,j<l.length→(∀p∈gT (l.getD j default),p<j)∧∀i,i<j→bG (es.getD i fG) (es.getD j fG)=true→i∈(ku l []).getD j []:=fun j hj=>by
  have:=qAC.1 hok j (qBZ.2 hj)
  grind
 have hall:∀(listed:Array Bool),listed.size=l.length→Region.ready .any l.toArray listed=[]→∀i,i<l.length→listed.getD i false=true:=by
  intro listed hsz hr i
  induction i using Nat.strongRecOn with
  |_ i ih=>
   intro hi;cases hb:listed.getD i false with
   |true=>rfl
   |false=>
    exfalso;have hlt:i<listed.size:=by omega
    have:i∈Region.ready .any l.toArray listed:=by
     refine mem_ready.2 ⟨?_,l[i],by simp[hi],fun e he hbd=>?_⟩
     ·simpa[Array.getD,hlt]using hb
     ·have hp:=(hord i hi).1 e.on (by
       simp only[gT,List.getD,qAd hi,qAq];exact qBk.2 ⟨e,qBA.2 ⟨by simpa using he,hbd⟩,rfl⟩)
      exact ih e.on hp (by omega)
    rw[hr]at this;cases this
 have hdone:∀(listed:Array Bool) (κ:aK) (a:Act) (w:World),listed.size=l.length→Region.ready .any l.toArray listed=[]→Sim C κ (s.wr (aI (fun i=>listed.getD i false) 0 es)) a w→Q .normal a w:=by
  intro listed κ a w hsz hr hsim;have ha:=hall listed hsz hr;refine hq κ a w ?_;have:s.wr (aI (fun i=>listed.getD i false) 0 es)=s':=by
   rw[hs'];refine ASt.ext' (by rw[(aM _ s).1,(aM _ s).1]) (by rw[(aM _ s).2,(aM _ s).2]) (fun n hn=>?_) (fun n hn=>?_)
   ·rw[(aM _ s).1]at hn;rw[iY _ n s hn,iY _ n s hn];rw[tN (D':=fun _=>true) es 0 (fun i e hi _=>by rw[qAv];exact ha i (by have:=(qAp.1 hi).1;omega))]
   ·rw[(aM _ s).2]at hn;rw[gy _ n s hn,gy _ n s hn];rw[nW (D':=fun _=>true) es 0 (fun i e hi _=>by rw[qAv];exact ha i (by have:=(qAp.1 hi).1;omega))]
  rw[←this];exact hsim
 intro fuel
 induction fuel with
 |zero=>
  intro listed κ a w hsz hcnt _ hsim;have hr:Region.ready .any l.toArray listed=[]:=by
   cases hrd:Region.ready .any l.toArray listed with
   |nil=>rfl
   |cons i r=>
    exfalso;have hm:i∈Region.ready .any l.toArray listed:=by rw[hrd];simp
    obtain⟨h1,o,h2,_⟩:=mem_ready.1 hm;have hlt:i<listed.size:=by have:=(qBz.1 h2).1;simp at this;omega
    have:=FY hlt h1;omega
  exact⟨hr,hdone listed κ a w hsz hr hsim⟩
 |succ fuel ih=>
  intro listed κ a w hsz hcnt hdown hsim;refine⟨fun hr=>hdone listed κ a w hsz hr hsim,fun i hi=>?_⟩;obtain⟨h1,o,h2,h3⟩:=mem_ready.1 hi;have hil:i<l.length:=by have:=(qBz.1 h2).1;simpa using this
  have hlo:l[i]? =some o:=by simpa using h2
  have hlt:i<listed.size:=by omega
  have hi0:listed.getD i false=false:=by simpa[Array.getD,hlt]using h1
  obtain⟨e,hei⟩:∃e,es[i]? =some e:=⟨_,qAd (by omega)⟩;have hgi:es.getD i fG=e:=by rw[List.getD,hei];rfl
  -- where something conflicts with i
  have hbd:∀j i',listed.getD j false=true→i'∈(ku l []).getD j []→listed.getD i' false=true:=
   qI (D:=fun j=>listed.getD j false=true) l [] (fun j i' _ hi'=>by simp at hi') (fun j o' hj hD p hp=>hdown j o' hj (by simpa using hD) p hp)
  have hearly:∀j f,es[j]? =some f→j<i→bG f e=true→listed.getD j false=true:=fun j f hj hji hc=>by
   have hgj:es.getD j fG=f:=by rw[List.getD,hj];rfl
   have hb:=(hord i hil).2 j hji (by rw[hgj,hgi];exact hc);have hD:∀j' i',(listed.getD j' false=true∨j'=i)→i'∈(ku l []).getD j' []→(listed.getD i' false=true∨i'=i):=
    qI (D:=fun j=>listed.getD j false=true∨j=i) l [] (fun j i' _ hi'=>by simp at hi') (fun j' o' hj' hD p hp=>by
     simp only[qAE,qAv]at hD;rcases hD with hD|rfl
     ·exact .inl (hdown j' o' hj' hD p hp)
     ·rw[hlo]at hj';cases hj';simp only[gT,qBk,qBA]at hp;obtain⟨ed,⟨he1,he2⟩,rfl⟩:=hp;exact .inl (h3 ed (by simpa using he1) he2))
   rcases hD i j (.inr rfl) hb with h|h
   ·exact h
   ·omega
  have hlate:∀j f,es[j]? =some f→i<j→bG e f=true→listed.getD j false=false:=fun j f hj hji hc=>by
   have hjl:j<l.length:=by have:=(qAp.1 hj).1;omega
   have hgj:es.getD j fG=f:=by rw[List.getD,hj];rfl
   have hb:=(hord j hjl).2 i hji (by rw[hgj,hgi];exact hc);cases hlj:listed.getD j false with
   |false=>rfl
   |true=>have:=hbd j i hlj hb;rw[hi0]at this;cases this
  have hcommon:∀j f,es[j]? =some f→(bG f e=true∨bG e f=true→j≠i→listed.getD j false=decide (j<i)):=fun j f hj=>by
   have hsym:bG f e=true↔bG e f=true:=by
    simp only[bG,qBb,qDa,qCl];constructor
    ·rintro(((⟨n,a1,a2|a2⟩|⟨n,a1,a2⟩)|⟨n,a1,a2|a2⟩)|⟨n,a1,a2⟩)
     ·exact .inl (.inl (.inr ⟨n,a1,a2⟩))
     ·exact .inl (.inl (.inl ⟨n,a2,.inr a1⟩))
     ·exact .inl (.inl (.inl ⟨n,a1,.inl a2⟩))
     ·exact .inr ⟨n,a1,a2⟩
     ·exact .inl (.inr ⟨n,a2,.inr a1⟩)
     ·exact .inl (.inr ⟨n,a1,.inl a2⟩)
    ·rintro(((⟨n,a1,a2|a2⟩|⟨n,a1,a2⟩)|⟨n,a1,a2|a2⟩)|⟨n,a1,a2⟩)
     ·exact .inl (.inl (.inr ⟨n,a1,a2⟩))
     ·exact .inl (.inl (.inl ⟨n,a2,.inr a1⟩))
     ·exact .inl (.inl (.inl ⟨n,a1,.inl a2⟩))
     ·exact .inr ⟨n,a1,a2⟩
     ·exact .inl (.inr ⟨n,a2,.inr a1⟩)
     ·exact .inl (.inr ⟨n,a1,.inl a2⟩)
   intro hc hne;rcases qCr hne with hlt'|hgt
   ·rw[hearly j f hj hlt' (hc.elim id hsym.2)];simp[hlt']
   ·rw[hlate j f hj hgt (hc.elim hsym.1 id)];simp;omega
  let D:Nat→Bool:=fun j=>listed.getD j false
  have hagree:Agree (s.wr (aI D 0 es)) (s.wr (aI (fun j=>decide (j<i)) 0 es)) e:=by
   refine⟨by rw[(aM _ s).1,(aM _ s).1],by rw[(aM _ s).2,(aM _ s).2],fun n hn=>?_,fun n hn=>?_⟩
   ·by_cases hnl:n<s.tmps.length
    ·rw[iY _ n s hnl,iY _ n s hnl];congr 1;refine tN es 0 fun j f hj hw=>?_;rw[qAv];by_cases hji:j=i
     ·subst hji;show listed.getD j false=_;rw[hi0];simp
     ·refine hcommon j f hj (.inl ?_) hji;cases hc:bG f e with
      |true=>rfl
      |false=>exact((yY hc hw).1 hn).elim
    ·have e1:(s.wr (aI D 0 es)).tmps.getD n .unk=.unk:=by rw[List.getD,qAn (by rw[(aM _ s).1];omega)];rfl
     have e2:(s.wr (aI (fun j=>decide (j<i)) 0 es)).tmps.getD n .unk=.unk:=by rw[List.getD,qAn (by rw[(aM _ s).1];omega)];rfl
     rw[e1,e2]
   ·by_cases hnl:n<s.heap.length
    ·rw[gy _ n s hnl,gy _ n s hnl];congr 1;refine nW es 0 fun j f hj hw=>?_;rw[qAv];by_cases hji:j=i
     ·subst hji;show listed.getD j false=_;rw[hi0];simp
     ·refine hcommon j f hj (.inl ?_) hji;cases hc:bG f e with
      |true=>rfl
      |false=>exact((yU hc hw).1 hn).elim
    ·have e1:obj? (s.wr (aI D 0 es)).heap n=.dead:=by rw[obj?,qAn (by rw[(aM _ s).2];omega)];rfl
     have e2:obj? (s.wr (aI (fun j=>decide (j<i)) 0 es)).heap n=.dead:=by rw[obj?,qAn (by rw[(aM _ s).2];omega)];rfl
     rw[e1,e2]
  have hstep:=heff i o e hlo hei _ hagree;have hDi:∀j,(listed.setIfInBounds i true).getD j false=(D j ||decide (j=i)):=fun j=>by
   by_cases hji:i=j
   ·subst hji;simp[Array.getD,hlt]
   ·simp only[qAm,qBL hji,D];simp[qBl hji]
  have hstate:(s.wr (aI D 0 es)).wr e.ws=s.wr (aI (fun j=>(listed.setIfInBounds i true).getD j false) 0 es):=by
   rw[←oC];refine ASt.ext' (by rw[(aM _ s).1,(aM _ s).1]) (by rw[(aM _ s).2,(aM _ s).2]) (fun n hn=>?_) (fun n hn=>?_)
   ·rw[(aM _ s).1]at hn;rw[iY _ n s hn,iY _ n s hn,u6];congr 1;by_cases hw:n∈dX e.ws
    ·rw[Vl (D:=fun j=>(listed.setIfInBounds i true).getD j false) es 0 i e hei (by rw[qAv,hDi];simp) hw (fun j f hj hij hD' hwf=>by
      rw[qAv,hDi]at hD';have hji:j≠i:=by omega
      have hDj:listed.getD j false=true:=by simpa[hji,D]using hD'
      have hc:bG f e=true:=by
       cases hc:bG f e with
       |true=>rfl
       |false=>exact((yY hc hwf).2 hw).elim
      have:=hcommon j f hj (.inl hc) hji;rw[hDj]at this;have hlt':j<i:=by simpa using this.symm
      omega)]
     obtain⟨v,hv⟩:=FN hw;rw[hv];rfl
    ·rw[FC hw,qCk];refine tN es 0 fun j f hj hwf=>?_;rw[qAv,hDi];have hji:j≠i:=fun e'=>by subst e';rw[hei]at hj;cases hj;exact hw hwf
     simp[hji,D]
   ·rw[(aM _ s).2]at hn;rw[gy _ n s hn,gy _ n s hn,uS];congr 1;by_cases hw:n∈dV e.ws
    ·rw[UG (D:=fun j=>(listed.setIfInBounds i true).getD j false) es 0 i e hei (by rw[qAv,hDi];simp) hw (fun j f hj hij hD' hwf=>by
      rw[qAv,hDi]at hD';have hji:j≠i:=by omega
      have hDj:listed.getD j false=true:=by simpa[hji,D]using hD'
      have hc:bG f e=true:=by
       cases hc:bG f e with
       |true=>rfl
       |false=>exact((yU hc hwf).2 hw).elim
      have:=hcommon j f hj (.inl hc) hji;rw[hDj]at this;have hlt':j<i:=by simpa using this.symm
      omega)]
     obtain⟨v,hv⟩:=FJ hw;rw[hv];rfl
    ·rw[E8 hw,qCk];refine nW es 0 fun j f hj hwf=>?_;rw[qAv,hDi];have hji:j≠i:=fun e'=>by subst e';rw[hei]at hj;cases hj;exact hw hwf
     simp[hji,D]
  have hnext:∀κ' a' w',Sim C κ' ((s.wr (aI D 0 es)).wr e.ws) a' w'→wpAny P .any l.toArray Q fuel (listed.setIfInBounds i true) a' w':=fun κ' a' w' hs2=>by
   rw[hstate]at hs2;refine ih (listed.setIfInBounds i true) κ' a' w' (by simpa using hsz) (by have:=FY hlt h1;omega) ?_ hs2;intro j o' hj hlj p hp;rw[hDi]at hlj⊢;by_cases hji:j=i
   ·subst hji;rw[hlo]at hj;cases hj;simp only[gT,qBk,qBA]at hp;obtain⟨ed,⟨he1,he2⟩,rfl⟩:=hp;have:=h3 ed (by simpa using he1) he2;simp only[D,this,qBT]
   ·have hlj':listed.getD j false=true:=by simpa[hji,D]using hlj
    have:=hdown j o' hj hlj' p hp;simp only[D,this,qBT]
  unfold wpOp;rw[h2];dsimp only;rcases hstep with⟨hwd,ht⟩|⟨hwd,he⟩
  ·rw[fJ hsim hwd];simp only[if_true];exact .inl (ht C κ a w hsim _ _ hnext)
  ·rw[fJ hsim hwd];simp only[qAI,if_false];refine hnext κ _ w ?_;rw[he];exact hsim.aA _ gY
theorem bF.drawn{P:Program}{id:Nat}{l:List Oper}{es:List Eff}{Q:Exit→ASt→Prop}{s s':ASt}(n:Nat)(hm:P.follows .mixedOrders=true)(h:ATr P l.toArray l es (s.reserve n) s')(hok:fC l es=true)(hq:Q .normal s'):bF P (.region id l.toArray true) Q s:=by
 intro C κ a w hs;refine wp_region_any hm ?_;have hr:=(hs.reserve n).sameHeap (w':={w with drawn:=w.drawn+1}) rfl rfl rfl rfl;have hfl:aI (fun i=>(Array.replicate l.length false).getD i false) 0 es=[]:=by
  have hz:∀(D:Nat→Bool) (es:List Eff) (k:Nat),(∀i,D i=false)→aI D k es=[]:=fun D es=>by
   induction es with
   |nil=>intro k _;rfl
   |cons e es ih=>intro k hD;simp[aI,ih _ hD,hD]
  refine hz _ es 0 fun i=>?_;simp[Array.getD]
 have:=aiw (C:=C) (Q:=fun e a' w'=>∃s'' κ',Q e s''∧Sim C κ' s'' a' w') h hok (fun κ' a' w' hs'=>⟨s',κ',hq,hs'⟩) l.length (Array.replicate l.length false) _ a _ (by simp) (by simp) (fun j o _ hl=>by simp[Array.getD]at hl) (by rw[hfl];exact hr)
 grind
def pX(P:Program)(s:ASt):List ResultVar→Option (List AV)
 |[]=>some []
 | .tmp t::r=>(pX P s r).map (s.tmps.getD t .unk::·)
 | .cell a t::r=>match s.tmps.getD a .unk with
  | .ptr l off=>match obj? s.heap l with
   | .box cs=>match gq P t (cs.drop off)with
    |some v=>(pX P s r).map (v::·)
    |none=>none
   |_=>none
  |_=>none
def zF(wk:Bool):List AV→AV
 |[x]=>if wk then nG x else x
 |xs=>.tup (if wk then xs.map nG else xs)
def Kw(tmps:Array Value):ResultVar→Sem Value
 | .tmp t=>pure (tmps.getD t undef)
 | .cell a t=>do loadVar t (←asAddr (tmps.getD a undef))
theorem Fu(fn:Func)(tmps:Array Value):results fn tmps=(do let vs ←fn.results.mapM (Kw tmps);pure (if h:vs.size=1 then vs[0]else .tuple vs)):=by
 congr 1
theorem Ci{P:Program}{C:Ctx}{κ:aK}{s:ASt}{a:Act}{w:World}(hs:Sim C κ s a w):∀(rs:List ResultVar) (xs:List AV),pX P s rs=some xs→
  ∃vs:List Value,vs.length=xs.length∧(∀j,j<xs.length→Rel w κ (aG C.aB κ s.heap) (xs.getD j .unk) (vs.getD j undef))∧(rs.mapM (Kw a.tmps)).run P w=.ok vs w:=by
 intro rs
 induction rs with
 |nil=>intro xs h;simp only[pX,Option.some.injEq]at h;subst h;exact⟨[],rfl,fun j hj=>(by cases hj),by simp⟩
 |cons r rs ih=>
  intro xs h;have key:∀(v:AV) (u:Value) (ys:List AV),pX P s rs=some ys→xs=v::ys→Rel w κ (aG C.aB κ s.heap) v u→(Kw a.tmps r).run P w=.ok u w→
    ∃vs:List Value,vs.length=xs.length∧(∀j,j<xs.length→Rel w κ (aG C.aB κ s.heap) (xs.getD j .unk) (vs.getD j undef))∧((r::rs).mapM (Kw a.tmps)).run P w=.ok vs w:=fun v u ys hys hxs hv hrun=>by
   obtain⟨vs,h1,h2,h3⟩:=ih ys hys;subst hxs;refine⟨u::vs,by simp[h1],fun j hj=>?_,?_⟩
   ·grind
   ·simp_all
  cases r with
  |tmp t=>
   simp only[pX]at h;cases hys:pX P s rs with
   |none=>rw[hys]at h;cases h
   |some ys=>
    rw[hys]at h;simp only[qAw,Option.some.injEq]at h;refine key _ (a.tmps.getD t undef) ys hys h.symm ?_ (by simp[Kw]);exact hs.ev (.tmp t)
  |cell x t=>
   simp only[pX]at h;split at h
   ·rename_i l off hx;split at h
    ·rename_i cs hl;split at h
     ·rename_i v hv;cases hys:pX P s rs with
      |none=>rw[hys]at h;cases h
      |some ys=>
       rw[hys]at h;simp only[qAw,Option.some.injEq]at h;have hr:=hs.ev (.tmp x);simp only[aS,Act.eval]at hr;rw[hx]at hr;obtain⟨b,e,hb⟩:=hr.lK;obtain⟨c,el,g1,g2,g3,g4⟩:=hs.box hb hl;obtain⟨y,g5,g6⟩:=Ag (P:=P) (w:=w) (κ:=κ) (pv:=aG C.aB κ s.heap) (b:=b) (off:=off) (cs:=cs.drop off) (fun j=>c.getD (off+j) undef)
        (fun j hj=>g3 _ (by simp at hj;omega)) (fun j hj=>by rw[getD_drop];exact g4 _ (by simp at hj;omega)) hv
       exact key v y ys hys h.symm g6 (by simp only[Kw,e];simp[asAddr,g5])
     ·cases h
    ·cases h
   ·cases h
def zA(P:Program)(rs:List ResultVar)(wk:Bool)(L:List Nat)(H:List AObj)(res:AV)(H':List AObj)(s:ASt):Prop:=
 ∃xs,pX P s rs=some xs∧zF wk xs=ren (nm L s.heap.length) res∧L.Nodup∧H'.length=L.length∧H.length≤L.length∧(∀i,i<H.length→L[i]? =some i)∧(∀l∈L,l<s.heap.length)∧
  ∀i l,L[i]? =some l→obj? s.heap l=bO (nm L s.heap.length) (obj? H' i)
def RY(R:ASt→Prop):Exit→ASt→Prop
 | .normal,s=>R s
 | .ret,s=>R s
 |_,_=>False
def bodyC(κ:aK)(aB:cZ)(H:List AObj)(w:World)(ds:List Deferred):Ctx:={aB:=aB,old:=fun b=>b<w.heap.size∧∀l,at? κ l=some b→¬live (obj? H l),w0:=w,k0:=κ,pvE:=aG aB κ H,ds:=ds}
theorem ZR{P:Program}{fn:Func}{H H':List AObj}{res:AV}{wk:Bool}{L:List Nat}{κ:aK}{aB:cZ}{w:World}(hen:Entry κ aB H w)(ds:List Deferred)(s:ASt)(κf:aK)(a:Act)(w':World)(hq:zA P fn.results.toList wk L H res H' s)(hs:Sim (bodyC κ aB H w ds) κf s a w'):
  ∃v,(results fn a.tmps).run P w'=.ok v w'∧∃v' κ',Ending.returned v=.returned v'∧Leave κ κ' aB H H' w w'∧Rel w' κ' (aG aB κ' H') res v':=by
 obtain⟨xs,q1,q2,q3,q4,q5,q6,q7,q8⟩:=hq;obtain⟨us,u1,u2,u3⟩:=Ci hs _ _ q1
 let κ':aK:=L.map (at? κf)
 let g:=nm L s.heap.length
 have hat:∀i b,at? κ' i=some b→∃l,L[i]? =some l∧at? κf l=some b:=fun i b hb=>by
  simp only[κ']at hb;rw[at?_map]at hb
  grind
 have hdown:∀i,at? κ' i=at? κf (g i):=fun i=>by
  simp only[κ',g,nm];rw[at?_map];cases hi:L[i]? with
  |some l=>rfl
  |none=>simp only[qBS];rw[at?_none_of_le (by rw[hs.klen];exact qAr _)]
 have hpv:∀b o,aG aB κ' H' b o→aG aB κf s.heap b o:=by
  rintro b o (h|⟨i,h1,h2⟩)
  ·exact .inl h
  ·obtain⟨l,hl,hb⟩:=hat i b h1;exact .inr ⟨l,hb,by rw[q8 i l hl,y9];exact h2⟩
 have hrel:∀{x:AV} {u:Value},Rel w' κf (aG aB κf s.heap) (ren g x) u→Rel w' κ' (aG aB κ' H') x u:=fun hx=>
  (hx.wh hdown _ rfl).mono (Evo.refl _ _) (bT.refl _) (fun b o h _=>hpv b o h)
 have hleave:Leave κ κ' aB H H' w w':=by
  refine⟨by simp[κ',q4],by omega,?_,?_,?_,?_,?_,?_,?_,hs.evo,fun b o h hlt=>hs.pvsub b o (hpv b o h) hlt,hs.os,hs.tape,hs.output⟩
  ·intro i b hb;have hi:i<H.length:=by rw[←hen.klen];exact lt_of_at? hb
   rw[hdown i];have:g i=i:=by simp only[g,nm,q6 i hi];rfl
   rw[this];exact hs.kext i b hb
  ·intro i hi;rw[hdown i];cases h0:L[i]? with
   |none=>simp only[g,nm,h0,qBS];exact at?_none_of_le (by rw[hs.klen];exact qAr _)
   |some l=>
    simp only[g,nm,h0,qAq];exact hs.resv l (by rw[q8 i l h0,hi];rfl)
  ·intro i b h1 h2;obtain⟨l,hl,hb⟩:=hat i b h1;have:=hs.obj l b hb (by rw[q8 i l hl,fA];exact h2);rw[q8 i l hl]at this;exact(this.wh hdown).mono rfl (Evo.refl _ _) (bT.refl _) (fun b o h _=>hpv b o h)
  ·intro i b h1 h2;obtain⟨l,hl,hb⟩:=hat i b h1;have hno:=hs.own l b hb (by rw[q8 i l hl,fA];exact h2);by_cases hlt:b<w.heap.size
   ·right;apply qAl;intro hne;exact hno ⟨hlt,fun l0 h0 hlv=>hne ⟨l0,h0,hlv⟩⟩
   ·left;omega
  ·intro i j b h1 h2 h3 h4;obtain⟨l,hl,hb⟩:=hat i b h1;obtain⟨l',hl',hb'⟩:=hat j b h2;have e:=hs.apart l l' b hb hb' (by rw[q8 i l hl,fA];exact h3) (by rw[q8 j l' hl',fA];exact h4);subst e;exact(qBY (qAp.1 hl).1 q3).1 (hl.trans hl'.symm)
  ·intro i b h1;obtain⟨l,_,hb⟩:=hat i b h1;exact hs.bound l b hb
  ·intro b hb hnl;exact hs.old b ⟨hb,hnl⟩
 have hresrel:∀(x:AV) (u:Value),Rel w' κf (aG aB κf s.heap) x u→Rel w' κf (aG aB κf s.heap) (if wk then nG x else x) u:=fun x u hx=>by
  cases wk
  ·exact hx
  ·exact hx.nG
 have hrun:∃v,(results fn a.tmps).run P w'=.ok v w'∧Rel w' κf (aG aB κf s.heap) (zF wk xs) v:=by
  have hm:(fn.results.mapM (Kw a.tmps)).run P w'=.ok us.toArray w':=by
   rw[qBK];simp only[Sem.run_map,u3,Result.andThen_ok]
  rw[Fu];simp only[Sem.run_bind,hm,Result.andThen_ok,Sem.run_pure];by_cases h1:us.length=1
  ·match us,h1 with
   |[u],_=>
    match xs,u1 with
    |[x],_=>
     refine⟨u,by simp,?_⟩;have:=u2 0 (by simp);simp only[List.getD,qAG,qAq]at this;exact hresrel x u this
  ·refine⟨.tuple us.toArray,by simp[h1],?_⟩;have hx:zF wk xs=.tup (if wk then xs.map nG else xs):=by
    match xs,u1 with
    |[],_=>rfl
    |[x],h=>exact(h1 (by simpa using h)).elim
    |_::_::_,_=>rfl
   rw[hx];refine .tup (by split<;>simp[u1]) fun j hj=>?_;have hj':j<xs.length:=by split at hj<;>simpa using hj
   have:=hresrel _ _ (u2 j hj');cases wk
   ·exact this
   ·simp only[if_true]at this⊢;have e:(xs.map nG).getD j .unk=nG (xs.getD j .unk):=by simp[List.getD,qAd hj']
    rw[e];exact this
 grind
theorem xK{P:Program}{f:Nat}{fn:Func}{c:Code}{args:List AV}{H H':List AObj}{res:AV}(wk:Bool)(L:List Nat)(hf:P.funcs[f]? =some fn)(hb:fn.body=some c)(hlen:args.length≤fn.ntmps)
  (h:bF P c (RY (zA P fn.results.toList wk L H res H')) ⟨args++List.replicate (fn.ntmps - args.length) (.tup []),H⟩):aR P f args H res H':=by
 intro κ aB w vs hen hvl hr
 let C:Ctx:=bodyC κ aB H w []
 refine calls_of_wp hf hb ?_;have hsim:Sim C κ ⟨args++List.replicate (fn.ntmps - args.length) (.tup []),H⟩ {tmps:=vs.toArray++Array.replicate (fn.ntmps - vs.toArray.size) undef,defers:=[]} w:=by
  refine⟨rfl,by simp[hvl],?_,hen.klen,bT.refl _,hen.resv,hen.obj,hen.apart,fun l b h1 h2 ho=>ho.2 l h1 h2,hen.bound,fun b o h=>⟨hen.pvlt b o h,fun l hl=>hen.pvdis b o l h hl⟩,fun b hb=>hb.1,fun _ _=>rfl,rfl,rfl,rfl,qAr _,fun _ _ h _=>h,Evo.refl _ _⟩;intro n hn;by_cases hlt:n<args.length
  ·have e1:(args++List.replicate (fn.ntmps - args.length) (AV.tup [])).getD n .unk=args.getD n .unk:=by simp[qAe hlt]
   have e2:(vs.toArray++Array.replicate (fn.ntmps - vs.toArray.size) undef).getD n undef=vs.getD n undef:=by
    simp_all
   rw[e1,e2];exact hr n hlt
  ·have e1:(args++List.replicate (fn.ntmps - args.length) (AV.tup [])).getD n .unk=.tup []:=by
    grind
   have e2:(vs.toArray++Array.replicate (fn.ntmps - vs.toArray.size) undef).getD n undef=undef:=by
    simp_all
   rw[e1,e2];exact gY
 have hfin:∀(s:ASt) (κf:aK) (a:Act) (w':World),zA P fn.results.toList wk L H res H' s→Sim C κf s a w'→a.defers=[]∧∃v,(results fn a.tmps).run P w'=.ok v w'∧∃v' κ',Ending.returned v=.returned v'∧Leave κ κ' aB H H' w w'∧Rel w' κ' (aG aB κ' H') res v':=fun s κf a w' hq hs=>⟨hs.defers,ZR hen [] s κf a w' hq hs⟩;refine wp_mono (h C κ _ w hsim) ?_;rintro e a w' ⟨s,κf,hq,hs⟩;cases e with
 |normal=>exact hfin s κf a w' hq hs
 |ret=>exact hfin s κf a w' hq hs
 |exit id=>exact hq.elim
 |goto l=>exact hq.elim
 |panic c=>exact hq.elim
 |outgrown=>exact hq.elim
def aJ(ops:Array Oper)(o:Oper):List Nat:=
 (o.op.operands.toList.filterMap fun| .tmp t=>some t|_=>none)++(match o.guard with|some (g,_)=>((ops[g]?).bind (·.dst)).toList|none=>[])
theorem Cz{tm tm':List AV}{ops:Array Oper}{o:Oper}(h:∀n∈aJ ops o,tm'.getD n .unk=tm.getD n .unk):∀x∈o.op.operands,aS tm' x=aS tm x:=by
 intro x hx;cases x with
 |tmp t=>exact h t (qBr _ (List.mem_filterMap.2 ⟨.tmp t,by simpa using hx,rfl⟩))
 |const v=>rfl
 |func f=>rfl
 |global g=>rfl
theorem nX{tm tm':List AV}{ops:Array Oper}{o:Oper}(h:∀n∈aJ ops o,tm'.getD n .unk=tm.getD n .unk):bN ops tm' o=bN ops tm o:=by
 unfold bN;cases hg:o.guard with
 |none=>rfl
 |some p=>
  obtain⟨j,want⟩:=p;simp only;cases hd:(ops[j]?).bind (·.dst)with
  |none=>rfl
  |some d=>
   simp only;rw[h d (by unfold aJ;rw[hg];simp[hd])]
theorem yF{P:Program}{ops:Array Oper}{o:Oper}{s:ASt}{k:Nat}{rd:List Nat}{ws:List Wr}(hw:bN ops s.tmps o=some true)(h:aH P k o (aS s.tmps) (obj? s.heap)=some (rd,ws)):tX P ops o s ⟨aJ ops o,rd,ws⟩:=by
 intro t ht;refine .inl ⟨by rw[nX ht.rs];exact hw,W9 (k:=k) (rd:=rd) ?_⟩;exact Qi h (Cz ht.rs) ht.ro
theorem u7{P:Program}{ops:Array Oper}{o:Oper}{s:ASt}(hw:bN ops s.tmps o=some false):tX P ops o s ⟨aJ ops o,[],aA o.dst (.tup [])⟩:=by
 intro t ht;exact .inr ⟨by rw[nX ht.rs];exact hw,rfl⟩
inductive Keep{α:Type}(a:α):Type where
 |mk:Keep a
def zx(P:Program)(f:Nat)(args:List AV)(dst:Option Tmp)(s:ASt)(k:Nat)(K:Nat→List Nat→List Wr→Prop)(_:Keep K):Prop:=
 ah P f=true∧∃(ρ ks:List Nat) (aargs:List AV) (H:List AObj) (res:AV) (H':List AObj),Passes s ρ ks H∧H'.length=(ρ++ks).length∧SWs args (aargs.map (ren (nm (ρ++ks) s.heap.length)))∧aR P f aargs H res H'∧
  K (k+ks.length) (ρ++ks) (fI (ρ++ks) (H'.map (bO (nm (ρ++ks) s.heap.length)))++aA dst (ren (nm (ρ++ks) s.heap.length) res))
theorem vL{P:Program}{ops:Array Oper}{o:Oper}{s:ASt}{fo:Operand}{args:Array Operand}{argTypes:Array TypeId}{f:Nat}{caps aargs:List AV}{ρ ks:List Nat}{H H':List AObj}{res:AV}(hw:bN ops s.tmps o=some true)
  (ho:o.op=.call {callee:=.value fo,args,argTypes}) (hf:aS s.tmps fo=.func f caps) (hok:ah P f=true) (hp:Passes s ρ ks H) (hH:H'.length=(ρ++ks).length)
  (hargs:SWs (args.toList.map (aS s.tmps)++caps) (aargs.map (ren (nm (ρ++ks) s.heap.length)))) (hc:aR P f aargs H res H'):
  tX P ops o s ⟨aJ ops o,ρ++ks,fI (ρ++ks) (H'.map (bO (nm (ρ++ks) s.heap.length)))++aA o.dst (ren (nm (ρ++ks) s.heap.length) res)⟩:=by
 intro t ht;have hop:=Cz ht.rs;have hfo:fo∈o.op.operands:=by rw[ho];simp[Op.operands,Call.operands]
 have hp':Passes t ρ ks H:=by
  refine⟨hp.nodup,hp.hlen,fun l hl=>by rw[ht.hl];exact hp.lt l hl,fun l hl=>by rw[ht.ro l (qBu _ hl)];exact hp.res l hl,fun i l hi=>?_⟩;rw[ht.ro l (qBr _ (qAB hi)),ht.hl];exact hp.obj i l hi
 have hmap:args.toList.map (aS t.tmps)=args.toList.map (aS s.tmps):=nY _ (fun x hx=>hop x (by rw[ho];simp only[Op.operands];exact qBw.2 (.inr (qBf.1 hx))));have:=akZ (P:=P) (o:=o) (s:=t) ho (by rw[hop fo hfo];exact hf) hok hp' hH (by rw[hmap,ht.hl];exact hargs) hc;rw[ht.hl]at this;exact .inl ⟨by rw[nX ht.rs];exact hw,this⟩
def eu:Op→Nat
 | .alloc _=>1
 | .box _ _=>1
 | .makeMap _ _=>1
 | .buildSlice _ _ _=>1
 | .makeSlice _ _ _=>1
 | .call {callee:=.builtin .append,..}=>1
 |_=>0
def gu:Op→Option (Operand×Array Operand)
 | .call {callee:=.value f,args,..}=>some (f,args)
 |_=>none
theorem mP{op:Op}{f:Operand}{args:Array Operand}(h:gu op=some (f,args)):∃t,op=.call {callee:=.value f,args,argTypes:=t}:=by
 unfold gu at h
 grind
def Lv(r:Option Bool)(A B:Prop)(_:Keep (A,B)):Prop:=∃c,r=some c∧(c=true→A)∧(c=false→B)
def Z0(r:Option (List Nat×List Wr))(f:List Nat→List Wr→Prop)(_:Keep f):Prop:=∃rd ws,r=some (rd,ws)∧f rd ws
def aae(v:AV)(f:Nat→List AV→Prop)(_:Keep f):Prop:=∃fid caps,v=.func fid caps∧f fid caps
def uH(P:Program)(ops:Array Oper):List Oper→Nat→List Eff→ASt→(List Eff→ASt→Prop)→Prop
 |[],_,es,s,K=>K es.reverse s
 |o::l,k,es,s,K=>Lv (bN ops s.tmps o)
   (match gu o.op with
    |some (f,args)=>aae (aS s.tmps f) (fun fid caps=>zx P fid (args.toList.map (aS s.tmps)++caps) o.dst s k (fun k' ro ws=>uH P ops l k' (⟨aJ ops o,ro,ws⟩::es) (s.wr ws) K) .mk) .mk
    |none=>Z0 (aH P k o (aS s.tmps) (obj? s.heap)) (fun rd ws=>uH P ops l (k+eu o.op) (⟨aJ ops o,rd,ws⟩::es) (s.wr ws) K) .mk)
   (uH P ops l k (⟨aJ ops o,[],aA o.dst (.tup [])⟩::es) (s.wr (aA o.dst (.tup []))) K) .mk
def tu(P:Program)(ops:Array Oper):List Oper→Nat→ASt→(ASt→Prop)→Prop
 |[],_,s,K=>K s
 |o::l,k,s,K=>Lv (bN ops s.tmps o)
   (match gu o.op with
    |some (f,args)=>aae (aS s.tmps f) (fun fid caps=>zx P fid (args.toList.map (aS s.tmps)++caps) o.dst s k (fun k' _ ws=>tu P ops l k' (s.wr ws) K) .mk) .mk
    |none=>Z0 (aH P k o (aS s.tmps) (obj? s.heap)) (fun rd ws=>tu P ops l (k+eu o.op) (s.wr ws) K) .mk)
   (tu P ops l k (s.wr (aA o.dst (.tup []))) K) .mk
theorem Uw{P:Program}{ops:Array Oper}:∀(l:List Oper) (k:Nat) (es:List Eff) (s:ASt) (K:List Eff→ASt→Prop),uH P ops l k es s K→∃es' s',ATr P ops l es' s s'∧K (es.reverse++es') s':=by
 intro l
 induction l with
 |nil=>intro k es s K h;exact⟨[],s,.nil s,by simpa[uH]using h⟩
 |cons o l ih=>
  intro k es s K h;obtain⟨c,hc,h1,h2⟩:=h;have fin:∀(e:Eff) (k':Nat),tX P ops o s e→uH P ops l k' (e::es) (s.wr e.ws) K→∃es' s',ATr P ops (o::l) es' s s'∧K (es.reverse++es') s':=fun e k' he hw=>by
   obtain⟨es',s',g1,g2⟩:=ih k' (e::es) _ K hw;exact⟨e::es',s',.cons he g1,by simpa using g2⟩
  cases c with
  |false=>exact fin _ k (u7 hc) (h2 rfl)
  |true=>
   have h1:=h1 rfl;cases hcall:gu o.op with
   |none=>
    rw[hcall]at h1;obtain⟨rd,ws,g1,g2⟩:=h1;exact fin _ _ (yF hc g1) g2
   |some p=>
    rw[hcall]at h1;obtain⟨fid,caps,g1,hok,ρ,ks,aargs,H,res,H',g2,g3,g4,g5,g6⟩:=h1;obtain⟨t,ho⟩:=mP hcall;exact fin _ _ (vL hc ho g1 hok g2 g3 g4 g5) g6
theorem aeG{P:Program}{ops:Array Oper}:∀(l:List Oper) (k:Nat) (s:ASt) (K:ASt→Prop),tu P ops l k s K→∃s',ASteps P ops l s s'∧K s':=by
 intro l
 induction l with
 |nil=>intro k s K h;exact⟨s,.nil s,h⟩
 |cons o l ih=>
  intro k s K h;obtain⟨c,hc,h1,h2⟩:=h;have fin:∀(e:Eff) (k':Nat),tX P ops o s e→tu P ops l k' (s.wr e.ws) K→∃s',ASteps P ops (o::l) s s'∧K s':=fun e k' he hw=>by
   obtain⟨s',g1,g2⟩:=ih k' _ K hw;exact⟨s',.cons (he s ⟨rfl,rfl,fun _ _=>rfl,fun _ _=>rfl⟩) g1,g2⟩
  cases c with
  |false=>exact fin _ k (u7 hc) (h2 rfl)
  |true=>
   have h1:=h1 rfl;cases hcall:gu o.op with
   |none=>
    rw[hcall]at h1;obtain⟨rd,ws,g1,g2⟩:=h1;exact fin _ _ (yF hc g1) g2
   |some p=>
    rw[hcall]at h1;obtain⟨fid,caps,g1,hok,ρ,ks,aargs,H,res,H',g2,g3,g4,g5,g6⟩:=h1;obtain⟨t,ho⟩:=mP hcall;exact fin _ _ (vL hc ho g1 hok g2 g3 g4 g5) g6
def ajq(l:List Oper):Nat:=(l.map fun o=>eu o.op).foldl (·+·) 0
theorem bF.reg{P:Program}{id:Nat}{l:List Oper}{Q:Exit→ASt→Prop}{s:ASt}(n:Nat)(h:tu P l.toArray l s.heap.length (s.reserve n) (Q .normal)):bF P (.region id l.toArray false) Q s:=by
 obtain⟨s',h1,h2⟩:=aeG _ _ _ _ h;exact bF.region n h1 h2
theorem bF.apI{P:Program}{id:Nat}{l:List Oper}{Q:Exit→ASt→Prop}{s:ASt}(n:Nat)(hm:P.follows .mixedOrders=true)(h:uH P l.toArray l s.heap.length [] (s.reserve n) fun es s'=>fC l es=true∧Q .normal s'):bF P (.region id l.toArray true) Q s:=by
 obtain⟨es,s',h1,h2,h3⟩:=Uw _ _ _ _ _ h;exact bF.drawn n hm h1 (by simpa using h2) h3
section
variable {P:Program}{k:Nat}{d:Option Tmp}{ty:TypeId}{ps:String}{af:Array Edge}{gd:Option (Nat×Bool)}{ρ:Operand→AV}{σ:Nat→AObj}
def jI(d:Option Tmp)(r:Option AV):Option (List Nat×List Wr):=r.map fun v=>([],aA d v)
def abW(P:Program)(t:TypeId)(σ:Nat→AObj)(d:Option Tmp):AV→Option (List Nat×List Wr)
 | .eptr cs=>jI d (gq P t cs)
 | .ptr l off=>match σ l with
  | .box cs=>(gq P t (cs.drop off)).map fun v=>([l],aA d v)
  | .arr z es=>if off=off/z*z∧off/z<es.length then(gq P t (es.getD (off/z) [])).map fun v=>([l],aA d v)else none
  |_=>none
 |_=>none
def XD(P:Program)(t:TypeId)(σ:Nat→AObj)(d:Option Tmp):AV→Option (List AV)→Option (List Nat×List Wr)
 | .ptr l off,some vs=>match σ l with
  | .box cs=>if sizeT P t=some vs.length∧off+vs.length≤cs.length∧vs.all isScalar then some ([l],.obj l (.box (cs.take off++vs++cs.drop (off+vs.length)))::aA d (.tup []))else none
  | .arr z es=>if sizeT P t=some vs.length∧vs.length=z∧off=off/z*z∧off/z<es.length∧vs.all isScalar then some ([l],.obj l (.arr z (es.set (off/z) vs))::aA d (.tup []))
   else if sizeT P t=some vs.length∧0<z∧off/z<es.length∧off%z+vs.length≤z∧vs.all isScalar then some ([l],.obj l (.arr z (es.set (off/z) ((es.getD (off/z) []).take (off%z)++vs++(es.getD (off/z) []).drop (off%z+vs.length))))::aA d (.tup []))else none
  |_=>none
 |_,_=>none
def ak1(x:AV):Option AV:=match x with| .ptr l o=>some (.ptr l o)| .eptr cs=>some (.eptr cs)| .func f cs=>some (.func f cs)| .flist (cs::r)=>some (.eptr (cs++[.flist r]))|_=>none
def unK(op:UnOp)(x:AV):Option AV:=match op,x with| .not,.bool b=>some (.bool (!b))| .neg,.int k n=>some (.int k (k.wrap (0 - n)))|_,_=>none
def WU(f:Option (Nat×TypeId))(x:AV):Option AV:=match f with|some (fo,_)=>(match x with| .ptr l o=>some (.ptr l (o+fo))| .eptr cs=>some (.eptr (cs.drop fo))|_=>none)|none=>none
def akV(st:Bool)(sl:Option Nat)(x:AV):Option AV:=match x with| .str s=>if st then some (.int .i64 s.length)else none| .slice es _=>if sl.isSome then some (.int .i64 es.length)else none| .psl _ _ n=>if sl.isSome then some (.int .i64 n)else none|_=>none
theorem agi(t:Nat)(x:Operand):aH P k ⟨d,.load t x,ty,ps,af,gd⟩ ρ σ=abW P t σ d (ρ x):=by
 unfold aH;simp only[au];cases ρ x<;>simp only[abW]
 case eptr cs=>cases gq P t cs<;>rfl
 grind
theorem U4(t:Nat)(x y:Operand):aH P k ⟨d,.store t x y,ty,ps,af,gd⟩ ρ σ=XD P t σ d (ρ x) (bY (ρ y)):=rfl
theorem ald(t:Nat):aH P k ⟨d,.alloc t,ty,ps,af,gd⟩ ρ σ=if bD (σ k)then(bE P t).map fun z=>([k],.obj k (.box z)::aA d (.ptr k 0))else none:=rfl
theorem apS(t:Nat)(x:Operand):aH P k ⟨d,.box t x,ty,ps,af,gd⟩ ρ σ=if bD (σ k)then(bY (ρ x)).map fun cs=>([k],.obj k (.box cs)::aA d (.ptr k 0))else none:=rfl
theorem ah8(t:Nat):aH P k ⟨d,.makeMap t none,ty,ps,af,gd⟩ ρ σ=if bD (σ k)then some ([k],.obj k (.mp [])::aA d (.mapr k))else none:=rfl
end
section
variable {P:Program}{ops:Array Oper}{l:List Oper}{k:Nat}{es:List Eff}{s:ASt}
end
theorem bF.as1{P:Program}{id:Nat}{l:List Oper}{Q:Exit→ASt→Prop}{s:ASt}(h:tu P l.toArray l s.heap.length (s.reserve (ajq l)) (Q .normal)):bF P (.region id l.toArray false) Q s:=bF.reg _ h
theorem bF.arD{P:Program}{id:Nat}{l:List Oper}{Q:Exit→ASt→Prop}{s:ASt}(hm:P.follows .mixedOrders=true)(h:uH P l.toArray l s.heap.length [] (s.reserve (ajq l)) fun es s'=>fC l es=true∧Q .normal s'):bF P (.region id l.toArray true) Q s:=bF.apI _ hm h
end
section
open Go
abbrev Str:=List UInt8
inductive Ty where
 |mk (kind:Int) (name:Str) (kids:List Ty)
def Ty.kind:Ty→Int| .mk k _ _=>k
def Ty.name:Ty→Str| .mk _ n _=>n
def Ty.kids:Ty→List Ty| .mk _ _ ks=>ks
inductive Tm where
 |mk (op:Int) (name:Str) (n:Int) (ty:Ty) (kids:List Tm)
def Tm.op:Tm→Int| .mk k _ _ _ _=>k
def Tm.name:Tm→Str| .mk _ n _ _ _=>n
def Tm.n:Tm→Int| .mk _ _ n _ _=>n
def Tm.ty:Tm→Ty| .mk _ _ _ t _=>t
def Tm.kids:Tm→List Tm| .mk _ _ _ _ ks=>ks
mutual
def iL:Ty→List AV
 | .mk k n ks=>[.int .i64 k,.str n,.slice (HV ks) .shared]
def HV:List Ty→List (List AV)
 |[]=>[]
 |t::ts=>iL t::HV ts
end
mutual
def dR:Tm→List AV
 | .mk k n m t ks=>[.int .i64 k,.str n,.int .i64 m]++iL t++[.slice (Gc ks) .shared]
def Gc:List Tm→List (List AV)
 |[]=>[]
 |t::ts=>dR t::Gc ts
end
theorem NC:∀ts,HV ts=ts.map iL
 |[]=>rfl
 |t::ts=>by simp[HV,NC ts]
theorem MX:∀ts,Gc ts=ts.map dR
 |[]=>rfl
 |t::ts=>by simp[Gc,MX ts]
@[go_sem] theorem iE(t:Ty):iL t=[.int .i64 t.kind,.str t.name,.slice (t.kids.map iL) .shared]:=by
 cases t;simp[iL,NC,Ty.kind,Ty.name,Ty.kids]
@[go_sem] theorem jM(t:Tm):dR t=[.int .i64 t.op,.str t.name,.int .i64 t.n,.int .i64 t.ty.kind,.str t.ty.name,.slice (t.ty.kids.map iL) .shared,.slice (t.kids.map dR) .shared]:=by
 cases t;simp[dR,MX,Tm.op,Tm.name,Tm.n,Tm.ty,Tm.kids,iE]
mutual
theorem aay(g:Nat→Nat):∀t,bS g (iL t)=iL t
 | .mk k n ks=>by simp only[iL,bS,ren,nP,Fw g ks]
theorem Fw(g:Nat→Nat):∀ts,bR g (HV ts)=HV ts
 |[]=>rfl
 |t::ts=>by simp only[HV,bR,aay g t,Fw g ts]
end
mutual
theorem aaj(g:Nat→Nat):∀t,bS g (dR t)=dR t
 | .mk k n m (.mk a b c) ks=>by
  simp only[dR,iL,qAH,qAz,bS,ren,nP,NM g ks,Fw g c]
theorem NM(g:Nat→Nat):∀ts,bR g (Gc ts)=Gc ts
 |[]=>rfl
 |t::ts=>by simp only[Gc,bR,aaj g t,NM g ts]
end
theorem agq(g:Nat→Nat)(ts:List Ty):bR g (ts.map iL)=ts.map iL:=by rw[←NC];exact Fw g ts
theorem YJ(g:Nat→Nat)(ts:List Tm):bR g (ts.map dR)=ts.map dR:=by rw[←MX];exact NM g ts
end
section
open Go
inductive IxT where
 |sl (sz:Option Nat)
 |arr (len:Nat) (sz:Option Nat)
 |no
structure TI where
 size:Option Nat
 agg:Option Bool
 isPtr:Bool
 isBool:Bool
 isStr:Bool
 isStruct:Bool
 isSl:Bool
 int:Option IntKind
 ix:IxT
 field:List (Option (Nat×TypeId))
 place:List (Option (Nat×Nat))
 zero:Option (List AV)
 zav:Option AV
 slT:Option Nat
 elem:Option (TypeId×Nat×Nat)
 smap:Option TypeId
def intTy(P:Program)(t:TypeId):Option IntKind:=match P.underlying t with|some (.int k)=>some k|_=>none
def GA(P:Program)(t:TypeId):IxT:=match P.underlying t with|some (.slice e)=>.sl (sizeT P e)|some (.array n e)=>.arr n (sizeT P e)|_=>.no
def ZI(P:Program)(t:TypeId):List (Option (Nat×TypeId)):=match P.underlying t with|some (.struct fs)=>fs.toList.map fun x=>(match sizeT P x.type with|some (_+1)=>some (x.offset,x.type)|_=>none)|_=>[]
def Zq(P:Program)(t:TypeId):List (Option (Nat×Nat)):=match P.underlying t with|some (.struct fs)=>fs.toList.map fun f=>(sizeT P f.type).map fun n=>(f.offset,n)|_=>[]
def TI.of(P:Program)(t:TypeId):TI:=
 {size:=sizeT P t,agg:=bC P t,isPtr:=Rw P t,isBool:=Li P t,isStr:=au.isStrT P t,isStruct:=bU P t,isSl:=aH.isSliceT P t,int:=intTy P t,ix:=GA P t,field:=ZI P t,place:=Zq P t,zero:=bE P t,zav:=sU P t,slT:=au.sliceT P t,elem:=dS P t,smap:=jo P t}
def lk{α:Type}:List (Option α)→Nat→Option α
 |[],_=>none
 |x::_,0=>x
 |_::l,n+1=>lk l n
theorem amf{α:Type}:∀(l:List (Option α)) (n:Nat),lk l n=(l[n]?).bind id:=by
 intro l
 induction l with
 |nil=>intro n;simp[lk]
 |cons a l ih=>intro n;cases n with
  |zero=>simp[lk]
  |succ n=>simp[lk,ih]
theorem Jb(P:Program)(s f:Nat):lk (TI.of P s).field f=aL P s f:=by
 rw[amf];show(ZI P s)[f]?.bind id=_;unfold ZI aL
 grind
theorem aaD(P:Program)(s f:Nat):lk (TI.of P s).place f=aO P s f:=by
 rw[amf];show(Zq P s)[f]?.bind id=_;unfold Zq aO
 grind
def apn(n:Nat)(cs:List AV):Option AV:=if cs.length=n then some (.agg cs)else if n≤cs.length then some (.agg (cs.take n))else none
def loadT(τ:Nat→TI)(t:TypeId)(cs:List AV):Option AV:=
 match(τ t).agg with
 |some true=>match(τ t).size with
  |some n=>apn n cs
  |none=>none
 |some false=>match cs with|[]=>none|c::_=>some c
 |none=>none
theorem Vf(P:Program)(t:TypeId)(cs:List AV):loadT (TI.of P) t cs=gq P t cs:=rfl
def PN(τ:Nat→TI)(op:BinOp)(t:TypeId):AV→AV→Option AV
 | .int k a,.int k' b=>if k=k' then(match op with
  | .add=>some (.int k (k.wrap (a+b)))
  | .sub=>some (.int k (k.wrap (a - b)))
  | .mul=>some (.int k (k.wrap (a*b)))
  | .quo=>if b=0 then none else some (.int k (k.wrap (a.tdiv b)))
  | .rem=>if b=0 then none else some (.int k (a.tmod b))
  | .eql=>some (.bool (a==b))
  | .neq=>some (.bool (a !=b))
  | .lss=>some (.bool (decide (a<b)))
  | .leq=>some (.bool (decide (a≤b)))
  | .gtr=>some (.bool (decide (b<a)))
  | .geq=>some (.bool (decide (b≤a)))
  | .shl=>if 0≤b∧b≤k.bits then some (.int k (k.wrap (a*2^b.toNat)))else none
  | .shr=>if 0≤b∧b≤k.bits then some (.int k (a.fdiv (2^b.toNat)))else none
  |_=>none)else none
 | .str a,.str b=>match op with
  | .add=>if a.length+b.length≤9223372036854775807 then some (.str (a++b))else none
  | .eql=>some (.bool (a==b))
  | .neq=>some (.bool (!(a==b)))
  | .lss=>some (.bool (Op.bytesLess a b))
  | .leq=>some (.bool (Op.bytesLess a b ||a==b))
  | .gtr=>some (.bool (!(Op.bytesLess a b ||a==b)))
  | .geq=>some (.bool (!(Op.bytesLess a b)))
  |_=>none
 | .bool a,.bool b=>if(τ t).isBool then(match op with
  | .eql=>some (.bool (a==b))
  | .neq=>some (.bool (!(a==b)))
  |_=>none)else none
 |x,.nilp=>if(τ t).isPtr then(match op,C8 x with
  | .eql,some b=>some (.bool b)
  | .neq,some b=>some (.bool (!b))
  |_,_=>none)else none
 |_,_=>none
end
section
open Go
def eP:Bool→Prop→Prop→Prop
 |true,A,_=>A
 |false,_,B=>B
def eT{α:Type}:Option α→(α→Prop)→Prop
 |some x,K=>K x
 |none,_=>False
theorem ai7{b:Bool}{A B:Prop}(h1:b=true→A)(h2:b=false→B):eP b A B:=by cases b<;>simp_all [eP]
theorem aW{b:Bool}{A B:Prop}(h:eP b A B):(b=true∧A)∨(b=false∧B):=by cases b<;>simp_all [eP]
theorem bH{α:Type}{r:Option α}{K:α→Prop}(h:eT r K):∃x,r=some x∧K x:=by cases r with|none=>exact h.elim|some x=>exact⟨x,rfl,h⟩
def as5(es:List (List AV))(n:Int)(sz:Nat)(K:AV→Prop):Prop:=∃cs,es[n.toNat]? =some cs∧0≤n∧cs.length=sz∧K (.eptr cs)
def amK(s:List UInt8)(n:Int)(K:AV→Prop):Prop:=(0≤n∧n<s.length)∧K (.int .u8 (s.getD n.toNat 0).toNat)
def at6(a b:List UInt8)(K:AV→Prop):Prop:=a.length+b.length≤9223372036854775807∧K (.str (a++b))
def as0(s:List UInt8)(lo hi:Option AV)(K:AV→Prop):Prop:=∃l h,bW hi s.length s.length=some h∧bW lo 0 h=some l∧K (.str ((s.drop l).take (h - l)))
def atB(es:List (List AV))(sz:Nat)(lo hi:Option AV)(K:AV→Prop):Prop:=∃l h,bW hi es.length es.length=some h∧bW lo 0 h=some l∧(l<es.length→(es.getD l []).length=sz)∧K (.slice ((es.drop l).take (h - l)) .shared)
def ao5(n:Int)(len:Nat)(K:Prop):Prop:=(0≤n∧n<len)∧K
def akw(ys:List (List AV))(sz bytes:Nat)(K:Prop):Prop:=(ys.length*bytes≤140737488355328∧ys.length≤140737488355328∧(ys.all (bn sz)=true))∧K
def al4(n:Nat)(es ys:List (List AV))(sz bytes:Nat)(K:Prop):Prop:=(n=es.length*sz∧(es.length+ys.length)*bytes≤140737488355328∧es.length+ys.length≤140737488355328∧(es.all (bn sz)=true)∧(ys.all (bn sz)=true))∧K
def aub(es:List (List UInt8×AV))(K:Prop):Prop:=es.length<140737488355328∧K
def aqv(es:List (List UInt8×AV))(s:List UInt8)(A:AV→Prop)(B:Prop):Prop:=(∀v,mD es s=some v→A v)∧(mD es s=none→B)
def acy(K:AV→Prop):IxT→AV→AV→Prop
 | .sl (some sz),.slice es _,.int _ n=>as5 es n sz K
 | .arr len (some sz),.ptr l o,.int _ n=>ao5 n len (K (.ptr l (o+n.toNat*sz)))
 | .arr len (some sz),.eptr cs,.int _ n=>ao5 n len (K (.eptr (cs.drop (n.toNat*sz))))
 |_,_,_=>False
def cutV(isStr:Bool)(slT:Option Nat)(lo hi:Option AV)(K:AV→Prop):AV→Prop
 | .str s=>eP isStr (as0 s lo hi K) False
 | .slice es _=>eT slT fun sz=>atB es sz lo hi K
 |_=>False
def Ky(τ:Nat→TI)(op:BinOp)(t:TypeId)(x y:AV)(K:AV→Prop):Prop:=
 match op,x,y with
 | .add,.str a,.str b=>at6 a b K
 |op,x,y=>eT (PN τ op t x y) K
def ahk(σ:Nat→AObj)(k sz bytes:Nat)(d:Option Tmp)(K:List Nat→List Wr→Prop):AV→AV→Prop
 | .slice [] .nils,.slice ys _=>eP (bD (σ k)) (akw ys sz bytes (K [k] (.obj k (.tip (ys.length*sz))::aA d (.slice ys (.tip k sz))))) False
 | .slice es (.tip l z),.slice ys _=>match σ l with
  | .tip n=>eP (bD (σ k)&&z==sz) (al4 n es ys sz bytes (K [l,k] (.obj l .dead:: .obj k (.tip ((es++ys).length*sz))::aA d (.slice (es++ys) (.tip k sz))))) False
  |_=>False
 |_,_=>False
def stepT(τ:Nat→TI)(k:Nat)(d:Option Tmp)(ρ:Operand→AV)(σ:Nat→AObj)(K:List Nat→List Wr→Prop):Op→Prop
 | .move x=>K [] (aA d (ρ x))
 | .assign x=>K [] (aA d (ρ x))
 | .pick c x y=>match ρ c with
  | .bool b=>eP b (K [] (aA d (ρ x))) (K [] (aA d (ρ y)))
  |_=>False
 | .nilCheck x=>eT (ak1 (ρ x)) fun v=>K [] (aA d v)
 | .binOp op t x y _=>Ky τ op t (ρ x) (ρ y) fun v=>K [] (aA d v)
 | .unOp op _ x=>eT (unK op (ρ x)) fun v=>K [] (aA d v)
 | .fieldAddr s x f=>eT (WU (lk (τ s).field f) (ρ x)) fun v=>K [] (aA d v)
 | .field s x f=>eT (lk (τ s).field f) fun p=>match ρ x with
  | .agg cs=>eT (loadT τ p.2 (cs.drop p.1)) fun v=>K [] (aA d v)
  |_=>False
 | .indexAddr t x i=>acy (fun v=>K [] (aA d v)) (τ t).ix (ρ x) (ρ i)
 | .index t x i=>match ρ x,ρ i with
  | .str s,.int _ n=>eP (τ t).isStr (amK s n fun v=>K [] (aA d v)) False
  |_,_=>False
 | .extract x i=>match ρ x with
  | .tup vs=>eT (vs[i]?) fun v=>K [] (aA d v)
  |_=>False
 | .slice t x lo hi none=>cutV (τ t).isStr (τ t).slT (lo.map ρ) (hi.map ρ) (fun v=>K [] (aA d v)) (ρ x)
 | .build t parts=>eP (τ t).isStruct (eT (τ t).zero fun z=>eT (iA (lk (τ t).place) z (parts.toList.map fun p=>(p.1,ρ p.2))) fun cs=>K [] (aA d (.agg cs))) False
 | .makeFunc (.func f) first captured=>eP (first.toList.isEmpty) (K [] (aA d (.func f (captured.toList.map ρ)))) False
 | .load t x=>match ρ x with
  | .eptr cs=>eT (loadT τ t cs) fun v=>K [] (aA d v)
  | .ptr l off=>match σ l with
   | .box cs=>eT (loadT τ t (cs.drop off)) fun v=>K [l] (aA d v)
   |_=>False
  |_=>False
 | .store t x y=>match ρ x with
  | .ptr l off=>eT (bY (ρ y)) fun vs=>match σ l with
   | .box cs=>eP (decide ((τ t).size=some vs.length∧off+vs.length≤cs.length)&&vs.all isScalar) (K [l] (.obj l (.box (cs.take off++vs++cs.drop (off+vs.length)))::aA d (.tup []))) False
   |_=>False
  |_=>False
 | .alloc t=>eP (bD (σ k)) (eT (τ t).zero fun z=>K [k] (.obj k (.box z)::aA d (.ptr k 0))) False
 | .box _ x=>eP (bD (σ k)) (eT (bY (ρ x)) fun cs=>K [k] (.obj k (.box cs)::aA d (.ptr k 0))) False
 | .makeMap _ none=>eP (bD (σ k)) (K [k] (.obj k (.mp [])::aA d (.mapr k))) False
 | .buildSlice t len parts=>eT (τ t).elem fun e=>eT (τ e.1).zero fun z=>eP (bD (σ k)&&(decide (len*e.2.1≤16777216)&&(decide (len≤16777216)&&decide (z.length=e.2.1)))) (eT (iA (fun i=>some (i*e.2.1,e.2.1)) ((List.replicate len z).flatten) (parts.toList.map fun p=>(p.1,ρ p.2))) fun cs=>K [k] (.obj k (.tip (len*e.2.1))::aA d (.slice (chunks e.2.1 len (cs.map shr)) (.tip k e.2.1)))) False
 | .convert s t x=>match ρ x with
  | .int _ n=>eP (τ s).int.isSome (eT (τ t).int fun k=>K [] (aA d (.int k (k.wrap n)))) False
  |_=>False
 | .call {callee:=.builtin .len,args,argTypes}=>match args.toList,argTypes.toList with
  |[x],[t]=>eT (akV (τ t).isStr (τ t).slT (ρ x)) fun v=>K [] (aA d v)
  |_,_=>False
 | .call {callee:=.builtin .append,args,argTypes}=>match args.toList,argTypes.toList with
  |[x,y],[t,t2]=>eT (τ t).elem fun e=>eP (τ t2).isSl (ahk σ k e.2.1 e.2.2 d K (ρ x) (ρ y)) False
  |_,_=>False
 | .call {callee:=.builtin .max,args,argTypes:=_}=>match args.toList with
  |[x,y]=>match ρ x,ρ y with
   | .int k a,.int k' b=>eP (decide (k=k')) (K [] (aA d (.int k (if b>a then b else a)))) False
   |_,_=>False
  |_=>False
 | .call {callee:=.builtin .min,args,argTypes:=_}=>match args.toList with
  |[x,y]=>match ρ x,ρ y with
   | .int k a,.int k' b=>eP (decide (k=k')) (K [] (aA d (.int k (if b<a then b else a)))) False
   |_,_=>False
  |_=>False
 | .lookup t m key ok=>eT (τ t).smap fun e=>match ρ m,ρ key with
  | .mapr l,.str s=>match σ l with
   | .mp es=>eT (τ e).zav fun z=>aqv es s (fun v=>K [l] (aA d (vW (some v) ok z))) (K [l] (aA d (vW none ok z)))
   |_=>False
  |_,_=>False
 | .mapUpdate t m key x=>eT (τ t).smap fun _=>match ρ m,ρ key with
  | .mapr l,.str s=>match σ l with
   | .mp es=>aub es (K [l] (.obj l (.mp (zT es s (nG (ρ x))))::aA d (.tup [])))
   |_=>False
  |_,_=>False
 |_=>False
end
end Abs
end Go.Proofs.YtbijdmihdagfaaaGreatDoor

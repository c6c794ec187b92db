/-
  Calls as operations; regions whose order is fixed; the rules of statements on abstract states ('AWP'); and the contract of a function from its body. Conditions: none; lemmas over any program.
-/
import Derived.Deep.LoopGhost
import Derived.Test.YtkopaeklihhdlaaGreatCAbs40oxd13d80
set_option linter.all false
namespace Go.Proofs.YtkopaeklihhdlaaGreat
namespace Abs
section
open Go
def aZ(P:Program)(f:Nat):Bool:=
 match P.funcs[f]? with
 |some fn=>!(fn.name== "runtime.NumGoroutine")&&fn.body.isSome
 |none=>false
theorem BR{P:Program}{f:Nat}{args:Array Value}{w:World}(h:aZ P f=true):(callFunc f args).run P w=.ok (.enter f args) w:=by
 unfold aZ at h;split at h
 ·rename_i fn hf;simp only[qAd,qBj]at h;obtain⟨h1,h2⟩:=h;have h3:fn.body.isNone=false:=by cases hb:fn.body<;>simp[hb]at h2⊢
  simp only[callFunc,Sem.run_bind,run_program,Result.andThen_ok,hf,h1,h3];rfl
 ·cases h
theorem ak9{P:Program}{o:Oper}{s:ASt}{fo:Operand}{args:Array Operand}{argTypes:Array TypeId}{f:Nat}{caps aargs:List AV}{ρ ks:List Nat}{H H':List AObj}{res:AV}
  (ho:o.op=.call {callee:=.value fo,args,argTypes}) (hf:bC s.tmps fo=.func f caps) (hok:aZ P f=true) (hp:Passes s ρ ks H) (hH:H'.length=(ρ++ks).length)
  (hargs:SWs (args.toList.map (bC s.tmps)++caps) (aargs.map (ren (nm (ρ++ks) s.heap.length)))) (hc:ak P f aargs H res H'):
  tu P o s (s.wr (kM (ρ++ks) (H'.map (bN (nm (ρ++ks) s.heap.length)))++aI o.dst (ren (nm (ρ++ks) s.heap.length) res))):=by
 intro C κ a w hs next Q hn
 have hrf:=hs.ev fo;rw[hf]at hrf;obtain⟨cv,e1,e2,e3⟩:=hrf.xI
 let vs:List Value:=args.toList.map a.eval++cv
 have hlen:vs.length=aargs.length:=by
  have:=hargs.len
  grind
 have hrun:(execOp a.eval o).run P w=.ok (.enter f vs.toArray) w:=by
  have e4:args.map a.eval++cv.toArray=vs.toArray:=by
   grind
  simp[execOp,ho,resolve,e1,Deferred.ofValue,invoke,BR hok,e4]
 have hrel:∀j,j<aargs.length→Rel w (ρ.map (at? κ)) (aO (EY C.aN κ s.heap ρ) (ρ.map (at? κ)) H) (aargs.getD j .unk) (vs.getD j undef):=fun j hj=>by
  rw[Jg hp];have hg:(aargs.map (ren (nm (ρ++ks) s.heap.length))).getD j .unk=ren (nm (ρ++ks) s.heap.length) (aargs.getD j .unk):=by
   grind
  have:Rel w κ (aO C.aN κ s.heap) ((args.toList.map (bC s.tmps)++caps).getD j .unk) (vs.getD j undef):=by
   by_cases hlt:j<args.toList.length
   ·have x1:(args.toList.map (bC s.tmps)++caps).getD j .unk=bC s.tmps args.toList[j]:=by
     grind
    have x2:vs.getD j undef=a.eval args.toList[j]:=by
     simp only[vs];rw[List.getD,qAf (by simpa using hlt),qAF,qAe hlt];rfl
    rw[x1,x2];exact hs.ev _
   grind
  replace this:=(hargs.get j).rel this;rw[hg]at this;exact this.vw (YB hs hp) _ rfl
 unfold Oper.wp;rw[hrun];refine(hc _ _ _ vs (aeo hs hp) hlen hrel).mono ?_;rintro e w' ⟨v,κ',rfl,hlv,hr⟩;obtain⟨κc,h1,h2⟩:=hs.back hp hlv hH hr;refine hn κc _ _ ?_;rw[kg];exact h1.aI o.dst h2
def dM(P:Program)(c:Code)(Q:Exit→ASt→Prop)(s:ASt):Prop:=
 ∀(C:Ctx) (κ:bg) (a:Act) (w:World),Sim C κ s a w→c.wp P (fun e a' w'=>∃s' κ',Q e s'∧Sim C κ' s' a' w') a w
theorem dM.skip{P:Program}{Q:Exit→ASt→Prop}{s:ASt}(h:Q .normal s):dM P .skip Q s:=fun _ κ _ _ hs=>wp_skip ⟨s,κ,h,hs⟩
theorem dM.ret{P:Program}{Q:Exit→ASt→Prop}{s:ASt}(h:Q .ret s):dM P .ret Q s:=fun _ κ _ _ hs=>wp_ret ⟨s,κ,h,hs⟩
theorem dM.exit{P:Program}{Q:Exit→ASt→Prop}{s:ASt}{id:Nat}(h:Q (.exit id) s):dM P (.exit id) Q s:=fun _ κ _ _ hs=>wp_exit ⟨s,κ,h,hs⟩
def Rc(next:ASt→Prop)(Q:Exit→ASt→Prop):Exit→ASt→Prop
 | .normal,s=>next s
 |e,s=>Q e s
theorem dM.seq{P:Program}{x y:Code}{Q:Exit→ASt→Prop}{s:ASt}(h:dM P x (Rc (dM P y Q) Q) s):dM P (.seq x y) Q s:=by
 intro C κ a w hs;refine wp_seq (wp_mono (h C κ a w hs) ?_);rintro e a' w' ⟨s',κ',h1,h2⟩;cases e with
 |normal=>exact h1 C κ' a' w' h2
 |exit id=>exact⟨s',κ',h1,h2⟩
 |goto l=>exact⟨s',κ',h1,h2⟩
 |ret=>exact⟨s',κ',h1,h2⟩
 |panic c=>exact⟨s',κ',h1,h2⟩
 |outgrown=>exact⟨s',κ',h1,h2⟩
theorem dM.cond{P:Program}{c:Operand}{x y:Code}{Q:Exit→ASt→Prop}{s:ASt}{t:Bool}(hc:bC s.tmps c=.bool t)(h1:t=true→dM P x Q s)(h2:t=false→dM P y Q s):dM P (.cond c x y) Q s:=by
 intro C κ a w hs;have hr:=hs.ev c;rw[hc]at hr;exact wp_cond_split hr.Ec (fun ht=>h1 ht C κ a w hs) (fun ht=>h2 ht C κ a w hs)
def zo(id:Nat)(Q:Exit→ASt→Prop):Exit→ASt→Prop
 | .exit id',s=>if id'=id then Q .normal s else Q (.exit id') s
 |e,s=>Q e s
theorem dM.block{P:Program}{id:Nat}{c:Code}{Q:Exit→ASt→Prop}{s:ASt}(h:dM P c (zo id Q) s):dM P (.block id c) Q s:=by
 intro C κ a w hs;refine wp_block (wp_mono (h C κ a w hs) ?_);rintro e a' w' ⟨s',κ',h1,h2⟩;cases e with
 |exit id'=>
  simp only[zo]at h1;simp only[Exit.inBlock]
  grind
 |normal=>exact⟨s',κ',h1,h2⟩
 |goto l=>exact⟨s',κ',h1,h2⟩
 |ret=>exact⟨s',κ',h1,h2⟩
 |panic c=>exact⟨s',κ',h1,h2⟩
 |outgrown=>exact⟨s',κ',h1,h2⟩
theorem dM.loop{P:Program}{c:Code}{Q:Exit→ASt→Prop}{s:ASt}(I:Nat→ASt→Prop){n:Nat}(h0:I n s)(round:∀n s,I n s→dM P c (Rc (fun s'=>∃m,m<n∧I m s') Q) s):dM P (.loop c) Q s:=by
 intro C κ a w hs;refine wp_loop_ghost (Q:=fun e a' w'=>∃s' κ',Q e s'∧Sim C κ' s' a' w') (fun n a w=>∃s κ,I n s∧Sim C κ s a w) n ⟨s,κ,h0,hs⟩ ?_;rintro n a w ⟨s,κ,hI,hs⟩;refine wp_mono (round n s hI C κ a w hs) ?_;rintro e a' w' ⟨s',κ',h1,h2⟩;cases e with
 |normal=>
  obtain⟨m,hm,hI'⟩:=h1;exact⟨m,hm,s',κ',hI',h2⟩
 |exit id=>exact⟨s',κ',h1,h2⟩
 |goto l=>exact⟨s',κ',h1,h2⟩
 |ret=>exact⟨s',κ',h1,h2⟩
 |panic c=>exact⟨s',κ',h1,h2⟩
 |outgrown=>exact⟨s',κ',h1,h2⟩
def d9(ops:Array Oper)(tmps:List AV)(o:Oper):Option Bool:=
 match o.guard with
 |none=>some true
 |some (j,want)=>match(ops[j]?).bind (·.dst)with
  |none=>none
  |some d=>match tmps.getD d .unk with
   | .bool b=>some (b==want)
   | .tup []=>some false
   |_=>none
theorem eU{C:Ctx}{κ:bg}{s:ASt}{a:Act}{w:World}(hs:Sim C κ s a w){ops:Array Oper}{o:Oper}{b:Bool}(h:d9 ops s.tmps o=some b):Region.wanted o (yielded ops a.tmps)=b:=by
 unfold d9 at h;unfold Region.wanted;cases hg:o.guard with
 |none=>rw[hg]at h;simpa using h
 |some p=>
  obtain⟨j,want⟩:=p;rw[hg]at h;simp only at h⊢;unfold yielded;cases hd:(ops[j]?).bind (·.dst)with
  |none=>rw[hd]at h;cases h
  |some d=>
   rw[hd]at h;simp only at h;have hr:=hs.ev (.tmp d);simp only[bC,Act.eval]at hr;split at h
   ·rename_i x hx;rw[hx]at hr;have e:=hr.Ec;have hlt:d<a.tmps.size:=by
     apply qAT;intro hn;rw[qAh,Array.getElem?_eq_none (qAu hn)]at e;cases e
    simp_all
   ·rename_i hx;rw[hx]at hr;obtain⟨vs,e,h1,_⟩:=hr.Xh;have:vs=[]:=qAz.1 h1;by_cases hlt:d<a.tmps.size
    ·simp_all
    grind
   ·cases h
def amn(P:Program)(ops:Array Oper)(o:Oper)(s s':ASt):Prop:=
 (d9 ops s.tmps o=some true∧tu P o s s')∨(d9 ops s.tmps o=some false∧s'=s.wr (aI o.dst (.tup [])))
inductive ASteps(P:Program)(ops:Array Oper):List Oper→ASt→ASt→Prop where
 |nil (s:ASt):ASteps P ops [] s s
 |cons {o:Oper} {l:List Oper} {s s1 s2:ASt}:amn P ops o s s1→ASteps P ops l s1 s2→ASteps P ops (o::l) s s2
theorem U5{P:Program}{ops:Array Oper}{Q:Exit→Act→World→Prop}{l:List Oper}{s s':ASt}(h:ASteps P ops l s s'):∀(C:Ctx) (κ:bg) (a:Act) (w:World),Sim C κ s a w→(∀κ' a' w',Sim C κ' s' a' w'→Q .normal a' w')→wpList P ops Q l a w:=by
 induction h with
 |nil s=>intro C κ a w hs hq;exact hq κ a w hs
 |cons h1 _ ih=>
  intro C κ a w hs hq;simp only[wpList];rcases h1 with⟨hw,ht⟩|⟨hw,rfl⟩
  ·rw[eU hs hw];exact .inl (ht C κ a w hs _ _ fun κ' a' w' hs'=>ih C κ' a' w' hs' hq)
  ·rw[eU hs hw];exact ih C κ _ w (hs.aI _ jr) hq
theorem Sim.reserve{C:Ctx}{κ:bg}{s:ASt}{a:Act}{w:World}(h:Sim C κ s a w)(n:Nat):Sim C (κ++List.replicate n none) {s with heap:=s.heap++List.replicate n .res} a w:=by
 have hat:∀l,at? (κ++List.replicate n none) l=at? κ l:=fun l=>by
  unfold at?
  grind
 have hob:∀l,l<s.heap.length→obj? (s.heap++List.replicate n .res) l=obj? s.heap l:=fun l hl=>by
  unfold obj?;rw[qAf hl]
 have hlt:∀l b,at? κ l=some b→l<s.heap.length:=fun l b hb=>by rw[←h.klen];exact lt_of_at? hb
 refine h.step (κ':=κ++List.replicate n none) (H':=s.heap++List.replicate n .res) (Evo.refl _ _) (fun l b hb=>by rw[hat];exact hb) (by simp[h.klen]) ?_ ?_ ?_ ?_ ?_ (fun _ _=>rfl) rfl rfl rfl
 ·rintro b o (hb|⟨l,h1,h2⟩) _
  ·exact .inl hb
  ·rw[hat]at h1;rw[hob l (hlt l b h1)]at h2;exact .inr ⟨l,h1,h2⟩
 ·grind
 ·intro l l' b h1 h2 h3 h4;rw[hat]at h1 h2;rw[hob l (hlt l b h1)]at h3;rw[hob l' (hlt l' b h2)]at h4;exact h.apart l l' b h1 h2 h3 h4
 ·intro l b h1;rw[hat]at h1;exact h.bound l b h1
 ·intro l h1;rw[hat];by_cases hl:l<s.heap.length
  ·rw[hob l hl]at h1;exact h.resv l h1
  ·exact at?_none_of_le (by rw[h.klen];exact qAu hl)
def ASt.reserve(s:ASt)(n:Nat):ASt:={s with heap:=s.heap++List.replicate n .res}
theorem dM.region{P:Program}{id:Nat}{l:List Oper}{Q:Exit→ASt→Prop}{s s':ASt}(n:Nat)(h:ASteps P l.toArray l (s.reserve n) s')(hq:Q .normal s'):dM P (.region id l.toArray false) Q s:=by
 intro C κ a w hs;exact wp_region_lit (U5 h C _ a w (hs.reserve n) fun κ' a' w' hs'=>⟨s',κ',hq,hs'⟩)
theorem tL{α β:Type}{f g:α→β}:∀(l:List α),(∀x∈l,f x=g x)→l.map f=l.map g
 |[],_=>rfl
 |x::l,h=>by simp only[qAA];rw[h x (by simp),tL l (fun y hy=>h y (by simp[hy]))]
theorem Ob{ρ ρ':Operand→AV}(o:Option Operand)(h:∀x,o=some x→ρ' x=ρ x):o.map ρ'=o.map ρ:=by
 cases o with
 |none=>rfl
 |some x=>simp;rw[h x rfl]
theorem adz{P:Program}{op:Op}{ρ ρ':Operand→AV}(h:∀x∈op.operands,ρ' x=ρ x):aM P op ρ'=aM P op ρ:=by
 cases op with
 |move x=>simp only[aM];rw[h x (by simp[Op.operands])]
 |assign x=>simp only[aM];rw[h x (by simp[Op.operands])]
 |pick c x y=>simp only[aM];rw[h c (by simp[Op.operands]),h x (by simp[Op.operands]),h y (by simp[Op.operands])]
 |nilCheck x=>simp only[aM];rw[h x (by simp[Op.operands])]
 |binOp op t x y t2=>simp only[aM];rw[h x (by simp[Op.operands]),h y (by simp[Op.operands])]
 |unOp op t x=>simp only[aM];rw[h x (by simp[Op.operands])]
 |fieldAddr s x f=>simp only[aM];rw[h x (by simp[Op.operands])]
 |field s x f=>simp only[aM];rw[h x (by simp[Op.operands])]
 |indexAddr t x i=>simp only[aM];rw[h x (by simp[Op.operands]),h i (by simp[Op.operands])]
 |index t x i=>simp only[aM];rw[h x (by simp[Op.operands]),h i (by simp[Op.operands])]
 |extract x i=>simp only[aM];rw[h x (by simp[Op.operands])]
 |slice t x lo hi mx=>
  cases mx with
  |some m=>rfl
  |none=>
   simp only[aM];rw[h x (by simp[Op.operands]),Ob lo (fun y hy=>h y (by subst hy;simp[Op.operands])),Ob hi (fun y hy=>h y (by subst hy;simp[Op.operands]))]
 |build t parts=>
  simp only[aM];rw[tL (f:=fun p=>(p.1,ρ' p.2)) (g:=fun p=>(p.1,ρ p.2)) parts.toList (fun p hp=>by
   rw[h p.2 (by simp only[Op.operands];exact List.mem_toArray.2 (qAQ.2 ⟨p,hp,rfl⟩))])]
 |makeFunc fn first captured=>
  cases fn with
  |func f=>
   simp only[aM];rw[tL (f:=ρ') (g:=ρ) captured.toList (fun x hx=>h x (by simp only[Op.operands];exact qBh.2 (.inr (qAU.1 hx))))]
  |_=>rfl
 |load t x=>simp only[aM];rw[h x (by simp[Op.operands])]
 |convert s t x=>simp only[aM];rw[h x (by simp[Op.operands])]
 |call c=>
  obtain⟨callee,args,argTypes⟩:=c;cases callee with
  |builtin b=>
   cases b<;>try rfl
   case len=>
    simp only[aM];split
    ·rename_i x t ha ht;rw[h x (by simp only[Op.operands,Call.operands];exact qBh.2 (.inr (qAU.1 (by rw[ha];simp))))]
    ·rfl
   case max=>
    simp only[aM];split
    ·rename_i x y ha;rw[h x (by simp only[Op.operands,Call.operands];exact qBh.2 (.inr (qAU.1 (by rw[ha];simp)))),
      h y (by simp only[Op.operands,Call.operands];exact qBh.2 (.inr (qAU.1 (by rw[ha];simp))))]
    ·rfl
   case min=>
    simp only[aM];split
    ·rename_i x y ha;rw[h x (by simp only[Op.operands,Call.operands];exact qBh.2 (.inr (qAU.1 (by rw[ha];simp)))),
      h y (by simp only[Op.operands,Call.operands];exact qBh.2 (.inr (qAU.1 (by rw[ha];simp))))]
    ·rfl
  |_=>rfl
 |_=>rfl
theorem Ov{P:Program}{k:Nat}{o:Oper}{ρ ρ':Operand→AV}{σ σ':Nat→AObj}{rd:List Nat}{ws:List Wr}(h:aV P k o ρ σ=some (rd,ws))(hρ:∀x∈o.op.operands,ρ' x=ρ x)(hσ:∀l∈rd,σ' l=σ l):
  aV P k o ρ' σ'=some (rd,ws):=by
 obtain⟨dst,op,ty,pos,after,guard⟩:=o;unfold aV at h⊢;rw[adz hρ];cases hp:aM P op ρ with
 |some v=>simp only[hp]at h⊢;exact h
 |none=>
  simp only[hp]at h⊢;simp only at hρ;cases op<;>(try simp only[reduceCtorEq]at h⊢)
  case load t x=>
   rw[hρ x (by simp[Op.operands])];split at h
   ·rename_i l off hx;split at h
    ·rename_i cs hl;have hrd:rd=[l]:=by
      cases hv:jI P t (cs.drop off)with
      |none=>rw[hv]at h;cases h
      |some v=>rw[hv]at h;simp at h;exact h.1.symm
     rw[hσ l (by rw[hrd];simp),hl];exact h
    ·rename_i z es hl;split at h
     ·rename_i hc;have hrd:rd=[l]:=by
       cases hv:jI P t (es.getD (off/z) [])with
       |none=>rw[hv]at h;cases h
       |some v=>rw[hv]at h;simp at h;exact h.1.symm
      rw[hσ l (by rw[hrd];simp),hl];simp only;rw[if_pos hc];exact h
     ·cases h
    ·cases h
   ·cases h
  case store t x y=>
   rw[hρ x (by simp[Op.operands]),hρ y (by simp[Op.operands])];split at h
   ·rename_i l off vs hx hy;split at h
    ·rename_i cs hl;split at h
     ·rename_i hc;have hrd:rd=[l]:=by simp at h;exact h.1.symm
      rw[hσ l (by rw[hrd];simp),hl];simp only;rw[if_pos hc];exact h
     ·cases h
    ·rename_i z es hl;split at h
     ·rename_i hc;have hrd:rd=[l]:=by simp at h;exact h.1.symm
      rw[hσ l (by rw[hrd];simp),hl];simp only;rw[if_pos hc];exact h
     ·rename_i hn;split at h
      ·rename_i hc;have hrd:rd=[l]:=by simp at h;exact h.1.symm
       rw[hσ l (by rw[hrd];simp),hl];simp only;rw[if_neg hn,if_pos hc];exact h
      ·cases h
    ·cases h
   ·cases h
  case binOp b t x y t2=>
   rw[hρ x (by simp[Op.operands])];exact h
  case alloc t=>
   split at h
   ·rename_i hk;have hrd:rd=[k]:=by
     cases hz:kU P t with
     |none=>rw[hz]at h;cases h
     |some z=>rw[hz]at h;simp at h;exact h.1.symm
    rw[hσ k (by rw[hrd];simp),if_pos hk];exact h
   ·cases h
  case box t x=>
   rw[hρ x (by simp[Op.operands])];split at h
   ·rename_i hk;have hrd:rd=[k]:=by
     cases hz:eD (ρ x)with
     |none=>rw[hz]at h;cases h
     |some z=>rw[hz]at h;simp at h;exact h.1.symm
    rw[hσ k (by rw[hrd];simp),if_pos hk];exact h
   ·cases h
  case makeMap t r=>
   cases r with
   |none=>
    simp only at h⊢;split at h
    ·rename_i hk;have hrd:rd=[k]:=by simp at h;exact h.1.symm
     rw[hσ k (by rw[hrd];simp),if_pos hk];exact h
    ·cases h
   |some x=>cases h
  case makeSlice t x y=>
   rw[hρ x (by simp[Op.operands]),hρ y (by simp[Op.operands])];split at h
   ·rename_i e sz by_ kl l kc c he hx hy;split at h
    ·rename_i z hz;split at h
     ·rename_i hc;have hrd:rd=[k]:=by simp at h;exact h.1.symm
      rw[hσ k (by rw[hrd];simp)];rw[if_pos hc];exact h
     ·cases h
    ·cases h
   ·cases h
  case buildSlice t len parts=>
   have he:(parts.toList.map fun p=>(p.1,ρ' p.2))=parts.toList.map fun p=>(p.1,ρ p.2):=tL _ (fun p hp=>by
    rw[hρ p.2 (by simp only[Op.operands];exact List.mem_toArray.2 (qAQ.2 ⟨p,hp,rfl⟩))])
   rw[he];split at h
   ·rename_i e sz by_ hel;split at h
    ·rename_i z hz;split at h
     ·rename_i hc;have hrd:rd=[k]:=by
       cases hf:kR (fun i=>some (i*sz,sz)) ((List.replicate len z).flatten) (parts.toList.map fun p=>(p.1,ρ p.2))with
       |none=>rw[hf]at h;cases h
       |some cs=>rw[hf,qAt]at h;cases hb:Un len parts.toList z<;>rw[hb]at h<;>simp at h<;>exact h.1.symm
      rw[hσ k (by rw[hrd];simp),if_pos hc];exact h
     ·cases h
    ·cases h
   ·cases h
  case call c=>
   obtain⟨callee,args,argTypes⟩:=c;cases callee with
   |builtin b=>
    cases b<;>(try simp only[reduceCtorEq]at h⊢);split at h
    ·rename_i x y t t2 ha ht;have hx:=hρ x (by simp only[Op.operands,Call.operands];exact qBh.2 (.inr (qAU.1 (by rw[ha];simp))));have hy:=hρ y (by simp only[Op.operands,Call.operands];exact qBh.2 (.inr (qAU.1 (by rw[ha];simp))));rw[hx,hy];split at h
     ·rename_i e sz by_ es ys tag hel h2 hxx hyy
      try simp only[hel,h2,hxx,hyy]
      split at h
      ·rename_i hc;have hrd:rd=[k]:=by simp at h;exact h.1.symm
       rw[hσ k (by rw[hrd];simp),if_pos hc];exact h
      ·cases h
     ·rename_i e sz by_ es l z ys tag hel h2 hxx hyy
      try simp only[hel,h2,hxx,hyy]
      split at h
      ·rename_i n hl;split at h
       ·rename_i hc;have hrd:rd=[l,k]:=by simp at h;exact h.1.symm
        rw[hσ k (by rw[hrd];simp),hσ l (by rw[hrd];simp),hl];simp only;rw[if_pos hc];exact h
       ·cases h
      ·cases h
     ·rename_i e sz by_ l z n ys tag hel h2 hxx hyy
      try simp only[hel,h2,hxx,hyy]
      split at h
      ·rename_i z' es hl;split at h
       ·rename_i hc;have hrd:rd=[l,k]:=by simp at h;exact h.1.symm
        rw[hσ k (by rw[hrd];simp),hσ l (by rw[hrd];simp),hl];simp only;rw[if_pos hc];exact h
       ·cases h
      ·cases h
     ·rename_i e sz by_ es n ys tag hel h2 hxx hyy
      try simp only[hel,h2,hxx,hyy]
      split at h
      ·rename_i hc;have hrd:rd=[k]:=by simp at h;exact h.1.symm
       rw[hσ k (by rw[hrd];simp),if_pos hc];exact h
      ·cases h
     ·cases h
    ·cases h
   |_=>cases h
  case lookup t m key ok=>
   rw[hρ m (by simp[Op.operands]),hρ key (by simp[Op.operands])];split at h
   ·rename_i e l k' ht hm hk
    try simp only[ht,hm,hk]
    split at h
    ·rename_i es z hl hz;have hrd:rd=[l]:=by simp at h;exact h.1.symm
     rw[hσ l (by rw[hrd];simp),hl,hz];exact h
    ·cases h
   ·cases h
  case mapUpdate t m key x=>
   rw[hρ m (by simp[Op.operands]),hρ key (by simp[Op.operands]),hρ x (by simp[Op.operands])];split at h
   ·rename_i e l k' ht hm hk
    try simp only[ht,hm,hk]
    split at h
    ·rename_i es hl;split at h
     ·rename_i hc;have hrd:rd=[l]:=by simp at h;exact h.1.symm
      rw[hσ l (by rw[hrd];simp),hl];simp only;rw[if_pos hc];exact h
     ·cases h
    ·cases h
   ·cases h
structure Eff where
 rs:List Nat
 ro:List Nat
 ws:List Wr
def gM(ws:List Wr):List Nat:=ws.filterMap fun| .slot n _=>some n|_=>none
def gL(ws:List Wr):List Nat:=ws.filterMap fun| .obj n _=>some n|_=>none
def oq:List Wr→Nat→Option AV
 |[],_=>none
 | .slot m v::ws,n=>(oq ws n).or (if m=n then some v else none)
 | .obj _ _::ws,n=>oq ws n
def nQ:List Wr→Nat→Option AObj
 |[],_=>none
 | .obj m v::ws,n=>(nQ ws n).or (if m=n then some v else none)
 | .slot _ _::ws,n=>nQ ws n
theorem aX(ws:List Wr):∀s:ASt,(s.wr ws).tmps.length=s.tmps.length∧(s.wr ws).heap.length=s.heap.length:=by
 induction ws with
 |nil=>intro s;exact⟨rfl,rfl⟩
 |cons w ws ih=>
  intro s;have:=ih (s.Gi w);refine⟨this.1.trans ?_,this.2.trans ?_⟩<;>cases w<;>simp[ASt.Gi,ASt.setSlot,ASt.setObj]
theorem jl(ws:List Wr)(n:Nat):∀s:ASt,n<s.tmps.length→(s.wr ws).tmps.getD n .unk=(oq ws n).getD (s.tmps.getD n .unk):=by
 induction ws with
 |nil=>intro s _;rfl
 |cons w ws ih=>
  intro s hn;have h1:=ih (s.Gi w) (by cases w<;>simpa[ASt.Gi,ASt.setSlot,ASt.setObj]using hn);refine h1.trans ?_;cases w with
  |slot m v=>
   simp only[oq];cases oq ws n with
   |some x=>rfl
   |none=>
    by_cases e:m=n
    ·subst e;rw[if_pos rfl];exact iw hn
    ·rw[if_neg e];exact j5 e
  |obj m v=>rfl
theorem gX(ws:List Wr)(n:Nat):∀s:ASt,n<s.heap.length→obj? (s.wr ws).heap n=(nQ ws n).getD (obj? s.heap n):=by
 induction ws with
 |nil=>intro s _;rfl
 |cons w ws ih=>
  intro s hn;have h1:=ih (s.Gi w) (by cases w<;>simpa[ASt.Gi,ASt.setSlot,ASt.setObj]using hn);refine h1.trans ?_;cases w with
  |obj m v=>
   simp only[nQ];cases nQ ws n with
   |some x=>rfl
   |none=>
    by_cases e:m=n
    ·subst e;rw[if_pos rfl];exact obj?_set_same hn
    ·rw[if_neg e];exact obj?_set_other e
  |slot m v=>rfl
theorem vN(a b:List Wr)(n:Nat):oq (a++b) n=(oq b n).or (oq a n):=by
 induction a with
 |nil=>simp[oq]
 |cons w a ih=>cases w<;>simp[oq,ih,Option.or_assoc]
theorem wB(a b:List Wr)(n:Nat):nQ (a++b) n=(nQ b n).or (nQ a n):=by
 induction a with
 |nil=>simp[nQ]
 |cons w a ih=>cases w<;>simp[nQ,ih,Option.or_assoc]
theorem Ca{ws:List Wr}{n:Nat}(h:n∉gM ws):oq ws n=none:=by
 induction ws with
 |nil=>rfl
 |cons w ws ih=>
  cases w with
  |slot m v=>
   simp only[gM,qBX,qAs,not_or]at h;simp only[oq,ih h.2,qBR,if_neg (qAZ h.1)]
  |obj m v=>simp only[gM]at h;exact ih h
theorem BP{ws:List Wr}{n:Nat}(h:n∉gL ws):nQ ws n=none:=by
 induction ws with
 |nil=>rfl
 |cons w ws ih=>
  cases w with
  |obj m v=>
   simp only[gL,qBX,qAs,not_or]at h;simp only[nQ,ih h.2,qBR,if_neg (qAZ h.1)]
  |slot m v=>simp only[gL]at h;exact ih h
theorem ASt.ext'{s t:ASt}(h1:s.tmps.length=t.tmps.length)(h2:s.heap.length=t.heap.length)(h3:∀n,n<s.tmps.length→s.tmps.getD n .unk=t.tmps.getD n .unk)(h4:∀n,n<s.heap.length→obj? s.heap n=obj? t.heap n):s=t:=by
 obtain⟨a,b⟩:=s;congr 1
 ·apply qBH h1
  grind
 ·apply qBH h2;intro n g1 g2;have:=h4 n g1;simpa[obj?,g1,g2]using this
def aP(D:Nat→Bool):Nat→List Eff→List Wr
 |_,[]=>[]
 |k,e::es=>(if D k then e.ws else[])++aP D (k+1) es
theorem rZ{D D':Nat→Bool}{n:Nat}:∀(es:List Eff) (k:Nat),(∀i e,es[i]? =some e→n∈gM e.ws→D (k+i)=D' (k+i))→oq (aP D k es) n=oq (aP D' k es) n:=by
 intro es
 induction es with
 |nil=>intro k _;rfl
 |cons e es ih=>
  intro k h;simp only[aP,vN];rw[ih (k+1) (fun i f hf hn=>by have:=h (i+1) f (by simpa using hf) hn;rwa[show k+(i+1)=k+1+i from by omega]at this)];by_cases hn:n∈gM e.ws
  ·have:=h 0 e (by simp) hn;rw[qAP]at this;rw[this]
  ·have:=Ca hn;cases D k<;>cases D' k<;>simp[this,oq]
theorem o9{D D':Nat→Bool}{n:Nat}:∀(es:List Eff) (k:Nat),(∀i e,es[i]? =some e→n∈gL e.ws→D (k+i)=D' (k+i))→nQ (aP D k es) n=nQ (aP D' k es) n:=by
 intro es
 induction es with
 |nil=>intro k _;rfl
 |cons e es ih=>
  intro k h;simp only[aP,wB];rw[ih (k+1) (fun i f hf hn=>by have:=h (i+1) f (by simpa using hf) hn;rwa[show k+(i+1)=k+1+i from by omega]at this)];by_cases hn:n∈gL e.ws
  ·have:=h 0 e (by simp) hn;rw[qAP]at this;rw[this]
  ·have:=BP hn;cases D k<;>cases D' k<;>simp[this,nQ]
theorem CB{ws:List Wr}{n:Nat}(h:n∈gM ws):∃v,oq ws n=some v:=by
 induction ws with
 |nil=>cases h
 |cons w ws ih=>
  cases w with
  |slot m v=>
   simp only[gM,qBX,qAs]at h;simp only[oq];cases hl:oq ws n with
   |some x=>exact⟨x,rfl⟩
   |none=>
    rcases h with h|h
    ·simp_all
    ·obtain⟨x,hx⟩:=ih h;rw[hl]at hx;cases hx
  |obj m v=>simp only[gM]at h;exact ih h
theorem Ms{D:Nat→Bool}{n:Nat}:∀(es:List Eff) (k i:Nat) (e:Eff),es[i]? =some e→D (k+i)=true→n∈gM e.ws→(∀j f,es[j]? =some f→i<j→D (k+j)=true→n∉gM f.ws)→oq (aP D k es) n=oq e.ws n:=by
 intro es
 induction es with
 |nil=>intro k i e h;simp at h
 |cons f es ih=>
  intro k i e hi hD hw hother;simp only[aP,vN];cases i with
  |zero=>
   simp at hi;subst hi;rw[qAP]at hD;have hrest:oq (aP D (k+1) es) n=oq (aP (fun _=>false) (k+1) es) n:=rZ es (k+1) (fun i g hg hn=>by
    cases hDg:D (k+1+i)with
    |false=>rfl
    |true=>exact(hother (i+1) g (by simpa using hg) (by omega) (by rw[show k+(i+1)=k+1+i from by omega];exact hDg) hn).elim)
   have hz:∀(es:List Eff) (k:Nat),aP (fun _=>false) k es=[]:=fun es=>by
    induction es with
    |nil=>intro k;rfl
    |cons e es ih=>intro k;simp[aP,ih]
   rw[hrest,hz,hD];simp[oq]
  |succ i=>
   have:=ih (k+1) i e (by simpa using hi) (by rw[show k+1+i=k+(i+1)from by omega];exact hD) hw (fun j g hg hlt hDg=>hother (j+1) g (by simpa using hg) (by omega) (by rw[show k+(j+1)=k+1+j from by omega];exact hDg));rw[this];obtain⟨v,hv⟩:=CB hw;rw[hv];rfl
theorem CS{ws:List Wr}{n:Nat}(h:n∈gL ws):∃v,nQ ws n=some v:=by
 induction ws with
 |nil=>cases h
 |cons w ws ih=>
  cases w with
  |obj m v=>
   simp only[gL,qBX,qAs]at h;simp only[nQ];cases hl:nQ ws n with
   |some x=>exact⟨x,rfl⟩
   |none=>
    rcases h with h|h
    ·simp_all
    ·obtain⟨x,hx⟩:=ih h;rw[hl]at hx;cases hx
  |slot m v=>simp only[gL]at h;exact ih h
theorem LG{D:Nat→Bool}{n:Nat}:∀(es:List Eff) (k i:Nat) (e:Eff),es[i]? =some e→D (k+i)=true→n∈gL e.ws→(∀j f,es[j]? =some f→i<j→D (k+j)=true→n∉gL f.ws)→nQ (aP D k es) n=nQ e.ws n:=by
 intro es
 induction es with
 |nil=>intro k i e h;simp at h
 |cons f es ih=>
  intro k i e hi hD hw hother;simp only[aP,wB];cases i with
  |zero=>
   simp at hi;subst hi;rw[qAP]at hD;have hrest:nQ (aP D (k+1) es) n=nQ (aP (fun _=>false) (k+1) es) n:=o9 es (k+1) (fun i g hg hn=>by
    cases hDg:D (k+1+i)with
    |false=>rfl
    |true=>exact(hother (i+1) g (by simpa using hg) (by omega) (by rw[show k+(i+1)=k+1+i from by omega];exact hDg) hn).elim)
   have hz:∀(es:List Eff) (k:Nat),aP (fun _=>false) k es=[]:=fun es=>by
    induction es with
    |nil=>intro k;rfl
    |cons e es ih=>intro k;simp[aP,ih]
   rw[hrest,hz,hD];simp[nQ]
  |succ i=>
   have:=ih (k+1) i e (by simpa using hi) (by rw[show k+1+i=k+(i+1)from by omega];exact hD) hw (fun j g hg hlt hDg=>hother (j+1) g (by simpa using hg) (by omega) (by rw[show k+(j+1)=k+1+j from by omega];exact hDg));rw[this];obtain⟨v,hv⟩:=CS hw;rw[hv];rfl
structure Agree(t s:ASt)(e:Eff):Prop where
 tl:t.tmps.length=s.tmps.length
 hl:t.heap.length=s.heap.length
 rs:∀n∈e.rs,t.tmps.getD n .unk=s.tmps.getD n .unk
 ro:∀l∈e.ro,obj? t.heap l=obj? s.heap l
def vH(P:Program)(ops:Array Oper)(o:Oper)(s:ASt)(e:Eff):Prop:=∀t,Agree t s e→amn P ops o t (t.wr e.ws)
inductive ATr(P:Program)(ops:Array Oper):List Oper→List Eff→ASt→ASt→Prop where
 |nil (s:ASt):ATr P ops [] [] s s
 |cons {o:Oper} {l:List Oper} {e:Eff} {es:List Eff} {s s':ASt}:vH P ops o s e→ATr P ops l es (s.wr e.ws) s'→ATr P ops (o::l) (e::es) s s'
theorem ATr.steps{P:Program}{ops:Array Oper}{l:List Oper}{es:List Eff}{s s':ASt}(h:ATr P ops l es s s'):ASteps P ops l s s':=by
 induction h with
 |nil s=>exact .nil s
 |cons he _ ih=>exact .cons (he _ ⟨rfl,rfl,fun _ _=>rfl,fun _ _=>rfl⟩) ih
def gZ(o:Oper):List Nat:=(o.after.toList.filter (Region.binds .any)).map (·.on)
def mH:List Oper→List (List Nat)→List (List Nat)
 |[],acc=>acc
 |o::l,acc=>mH l (acc++[gZ o++(gZ o).flatMap fun p=>acc.getD p []])
def bR(e f:Eff):Bool:=
 (gM e.ws).any (fun n=>f.rs.contains n ||(gM f.ws).contains n) ||(gM f.ws).any (fun n=>e.rs.contains n) ||
 (gL e.ws).any (fun n=>f.ro.contains n ||(gL f.ws).contains n) ||(gL f.ws).any (fun n=>e.ro.contains n)
def iy:Eff:=⟨[],[],[]⟩
def iG(l:List Oper)(es:List Eff):Bool:=
 (List.range l.length).all fun j=>(gZ (l.getD j default)).all (fun p=>decide (p<j))&&(List.range j).all fun i=>!(bR (es.getD i iy) (es.getD j iy)) ||((mH l []).getD j []).contains i
theorem qd{D:Nat→Prop}:∀(l:List Oper) (acc:List (List Nat)),(∀j i,D j→i∈acc.getD j []→D i)→(∀j o,l[j]? =some o→D (acc.length+j)→∀p∈gZ o,D p)→∀j i,D j→i∈(mH l acc).getD j []→D i:=by
 intro l
 induction l with
 |nil=>intro acc h _ j i hj hi;exact h j i hj hi
 |cons o l ih=>
  intro acc h hc j i hj hi;simp only[mH]at hi;refine ih _ ?_ ?_ j i hj hi
  ·intro j i hj hi;by_cases hlt:j<acc.length
   ·rw[List.getD,qAf hlt]at hi;exact h j i hj hi
   ·by_cases he:j=acc.length
    ·subst he;rw[List.getD,qAm (qAc _)]at hi;simp only[Nat.sub_self,qAp,qAi,qBn,qCK]at hi;have hp:=hc 0 o (by simp) hj
     grind
    grind
  ·intro j o' hj' hD p hp;refine hc (j+1) o' (by simpa using hj') ?_ p hp
   grind
theorem ATr.spec{P:Program}{ops:Array Oper}{l:List Oper}{es:List Eff}{s s':ASt}(h:ATr P ops l es s s'):l.length=es.length∧s'=s.wr (aP (fun _=>true) 0 es)∧
  ∀i o e,l[i]? =some o→es[i]? =some e→vH P ops o (s.wr (aP (fun j=>decide (j<i)) 0 es)) e:=by
 have hz:∀(es:List Eff) (k:Nat),aP (fun _=>false) k es=[]:=fun es=>by
  induction es with
  |nil=>intro k;rfl
  |cons e es ih=>intro k;simp[aP,ih]
 have hcongr:∀(D D':Nat→Bool) (es:List Eff) (k k':Nat),(∀i,D (k+i)=D' (k'+i))→aP D k es=aP D' k' es:=fun D D' es=>by
  induction es with
  |nil=>intro k k' _;rfl
  |cons e es ih=>
   intro k k' h;simp only[aP];have h0:=h 0;rw[qAP,qAP]at h0;rw[h0,ih (k+1) (k'+1) (fun i=>by have:=h (i+1);rwa[show k+(i+1)=k+1+i from by omega,show k'+(i+1)=k'+1+i from by omega]at this)]
 induction h with
 |nil s=>exact⟨rfl,rfl,fun i o e h=>by simp at h⟩
 |@cons o l e es s s' he _ ih=>
  obtain⟨h1,h2,h3⟩:=ih;refine⟨by simp[h1],?_,fun i o' e' hi hi'=>?_⟩
  ·rw[h2];simp only[aP,kg]
   grind
  ·cases i with
   |zero=>
    simp at hi hi';subst hi hi';have:aP (fun j=>decide (j<0)) 0 (e::es)=[]:=by
     simp_all
    rw[this];exact he
   |succ i=>
    have:=h3 i o' e' (by simpa using hi) (by simpa using hi');have hf:aP (fun j=>decide (j<i+1)) 0 (e::es)=e.ws++aP (fun j=>decide (j<i)) 0 es:=by
     simp only[aP]
     grind
    rw[hf,kg];exact this
theorem xZ{e f:Eff}{n:Nat}(h:bR e f=false)(he:n∈gM e.ws):n∉f.rs∧n∉gM f.ws:=by
 simp only[bR]at h
 grind
theorem xW{e f:Eff}{n:Nat}(h:bR e f=false)(he:n∈gL e.ws):n∉f.ro∧n∉gL f.ws:=by
 simp only[bR]at h
 grind
theorem Bn{listed:Array Bool}{i:Nat}(hi:i<listed.size)(hf:listed.getD i true=false):((listed.setIfInBounds i true).toList.filter (!·)).length+1=(listed.toList.filter (!·)).length:=by
 have key:∀(l:List Bool) (i:Nat),i<l.length→l.getD i true=false→((l.set i true).filter (!·)).length+1=(l.filter (!·)).length:=by
  intro l
  induction l with
  |nil=>intro i hi;simp at hi
  |cons x l ih=>
   intro i hi hg;cases i with
   |zero=>simp[List.getD]at hg;subst hg;simp
   |succ i=>
    grind
 simp_all
theorem ait{P:Program}{l:List Oper}{es:List Eff}{s s':ASt}{C:Ctx}{Q:Exit→Act→World→Prop}(htr:ATr P l.toArray l es s s')(hok:iG l es=true)(hq:∀κ' a' w',Sim C κ' s' a' w'→Q .normal a' w'):
  ∀(fuel:Nat) (listed:Array Bool) (κ:bg) (a:Act) (w:World),listed.size=l.length→(listed.toList.filter (!·)).length=fuel→
   (∀j o,l[j]? =some o→listed.getD j false=true→∀p∈gZ o,listed.getD p false=true)→
   Sim C κ (s.wr (aP (fun i=>listed.getD i false) 0 es)) a w→wpAny P .any l.toArray Q fuel listed a w:=by
 obtain⟨hlen,hs',heff⟩:=htr.spec;have hord:∀j,j<l.length→(∀p∈gZ (l.getD j default),p<j)∧∀i,i<j→bR (es.getD i iy) (es.getD j iy)=true→i∈(mH l []).getD j []:=fun j hj=>by
  have:=qAC.1 hok j (qBi.2 hj)
  grind
 have hall:∀(listed:Array Bool),listed.size=l.length→Region.ready .any l.toArray listed=[]→∀i,i<l.length→listed.getD i false=true:=by
  intro listed hsz hr i
  induction i using Nat.strongRecOn with
  |_ i ih=>
   intro hi;cases hb:listed.getD i false with
   |true=>rfl
   |false=>
    exfalso;have hlt:i<listed.size:=by omega
    have:i∈Region.ready .any l.toArray listed:=by
     refine mem_ready.2 ⟨?_,l[i],by simp[hi],fun e he hbd=>?_⟩
     ·simpa[Array.getD,hlt]using hb
     ·have hp:=(hord i hi).1 e.on (by
       simp only[gZ,List.getD,qAe hi,qAi];exact qAQ.2 ⟨e,qBf.2 ⟨by simpa using he,hbd⟩,rfl⟩)
      exact ih e.on hp (by omega)
    rw[hr]at this;cases this
 have hdone:∀(listed:Array Bool) (κ:bg) (a:Act) (w:World),listed.size=l.length→Region.ready .any l.toArray listed=[]→Sim C κ (s.wr (aP (fun i=>listed.getD i false) 0 es)) a w→Q .normal a w:=by
  intro listed κ a w hsz hr hsim;have ha:=hall listed hsz hr;refine hq κ a w ?_;have:s.wr (aP (fun i=>listed.getD i false) 0 es)=s':=by
   rw[hs'];refine ASt.ext' (by rw[(aX _ s).1,(aX _ s).1]) (by rw[(aX _ s).2,(aX _ s).2]) (fun n hn=>?_) (fun n hn=>?_)
   ·rw[(aX _ s).1]at hn;rw[jl _ n s hn,jl _ n s hn];rw[rZ (D':=fun _=>true) es 0 (fun i e hi _=>by rw[qAw];exact ha i (by have:=(qAk.1 hi).1;omega))]
   ·rw[(aX _ s).2]at hn;rw[gX _ n s hn,gX _ n s hn];rw[o9 (D':=fun _=>true) es 0 (fun i e hi _=>by rw[qAw];exact ha i (by have:=(qAk.1 hi).1;omega))]
  rw[←this];exact hsim
 intro fuel
 induction fuel with
 |zero=>
  intro listed κ a w hsz hcnt _ hsim;have hr:Region.ready .any l.toArray listed=[]:=by
   cases hrd:Region.ready .any l.toArray listed with
   |nil=>rfl
   |cons i r=>
    exfalso;have hm:i∈Region.ready .any l.toArray listed:=by rw[hrd];simp
    obtain⟨h1,o,h2,_⟩:=mem_ready.1 hm;have hlt:i<listed.size:=by have:=(qAI.1 h2).1;simp at this;omega
    have:=Bn hlt h1;omega
  exact⟨hr,hdone listed κ a w hsz hr hsim⟩
 |succ fuel ih=>
  intro listed κ a w hsz hcnt hdown hsim;refine⟨fun hr=>hdone listed κ a w hsz hr hsim,fun i hi=>?_⟩;obtain⟨h1,o,h2,h3⟩:=mem_ready.1 hi;have hil:i<l.length:=by have:=(qAI.1 h2).1;simpa using this
  have hlo:l[i]? =some o:=by simpa using h2
  have hlt:i<listed.size:=by omega
  have hi0:listed.getD i false=false:=by simpa[Array.getD,hlt]using h1
  obtain⟨e,hei⟩:∃e,es[i]? =some e:=⟨_,qAe (by omega)⟩;have hgi:es.getD i iy=e:=by rw[List.getD,hei];rfl
  -- where something conflicts with i
  have hbd:∀j i',listed.getD j false=true→i'∈(mH l []).getD j []→listed.getD i' false=true:=
   qd (D:=fun j=>listed.getD j false=true) l [] (fun j i' _ hi'=>by simp at hi') (fun j o' hj hD p hp=>hdown j o' hj (by simpa using hD) p hp)
  have hearly:∀j f,es[j]? =some f→j<i→bR f e=true→listed.getD j false=true:=fun j f hj hji hc=>by
   have hgj:es.getD j iy=f:=by rw[List.getD,hj];rfl
   have hb:=(hord i hil).2 j hji (by rw[hgj,hgi];exact hc);have hD:∀j' i',(listed.getD j' false=true∨j'=i)→i'∈(mH l []).getD j' []→(listed.getD i' false=true∨i'=i):=
    qd (D:=fun j=>listed.getD j false=true∨j=i) l [] (fun j i' _ hi'=>by simp at hi') (fun j' o' hj' hD p hp=>by
     simp only[qAE,qAw]at hD;rcases hD with hD|rfl
     ·exact .inl (hdown j' o' hj' hD p hp)
     ·rw[hlo]at hj';cases hj';simp only[gZ,qAQ,qBf]at hp;obtain⟨ed,⟨he1,he2⟩,rfl⟩:=hp;exact .inl (h3 ed (by simpa using he1) he2))
   rcases hD i j (.inr rfl) hb with h|h
   ·exact h
   ·omega
  have hlate:∀j f,es[j]? =some f→i<j→bR e f=true→listed.getD j false=false:=fun j f hj hji hc=>by
   have hjl:j<l.length:=by have:=(qAk.1 hj).1;omega
   have hgj:es.getD j iy=f:=by rw[List.getD,hj];rfl
   have hb:=(hord j hjl).2 i hji (by rw[hgj,hgi];exact hc);cases hlj:listed.getD j false with
   |false=>rfl
   |true=>have:=hbd j i hlj hb;rw[hi0]at this;cases this
  have hcommon:∀j f,es[j]? =some f→(bR f e=true∨bR e f=true→j≠i→listed.getD j false=decide (j<i)):=fun j f hj=>by
   have hsym:bR f e=true↔bR e f=true:=by
    simp only[bR,qBB,List.any_eq_true,qCl];constructor
    ·rintro(((⟨n,a1,a2|a2⟩|⟨n,a1,a2⟩)|⟨n,a1,a2|a2⟩)|⟨n,a1,a2⟩)
     ·exact .inl (.inl (.inr ⟨n,a1,a2⟩))
     ·exact .inl (.inl (.inl ⟨n,a2,.inr a1⟩))
     ·exact .inl (.inl (.inl ⟨n,a1,.inl a2⟩))
     ·exact .inr ⟨n,a1,a2⟩
     ·exact .inl (.inr ⟨n,a2,.inr a1⟩)
     ·exact .inl (.inr ⟨n,a1,.inl a2⟩)
    ·rintro(((⟨n,a1,a2|a2⟩|⟨n,a1,a2⟩)|⟨n,a1,a2|a2⟩)|⟨n,a1,a2⟩)
     ·exact .inl (.inl (.inr ⟨n,a1,a2⟩))
     ·exact .inl (.inl (.inl ⟨n,a2,.inr a1⟩))
     ·exact .inl (.inl (.inl ⟨n,a1,.inl a2⟩))
     ·exact .inr ⟨n,a1,a2⟩
     ·exact .inl (.inr ⟨n,a2,.inr a1⟩)
     ·exact .inl (.inr ⟨n,a1,.inl a2⟩)
   intro hc hne;rcases qCw hne with hlt'|hgt
   ·rw[hearly j f hj hlt' (hc.elim id hsym.2)];simp[hlt']
   ·rw[hlate j f hj hgt (hc.elim hsym.1 id)];simp;omega
  let D:Nat→Bool:=fun j=>listed.getD j false
  have hagree:Agree (s.wr (aP D 0 es)) (s.wr (aP (fun j=>decide (j<i)) 0 es)) e:=by
   refine⟨by rw[(aX _ s).1,(aX _ s).1],by rw[(aX _ s).2,(aX _ s).2],fun n hn=>?_,fun n hn=>?_⟩
   ·by_cases hnl:n<s.tmps.length
    ·rw[jl _ n s hnl,jl _ n s hnl];congr 1;refine rZ es 0 fun j f hj hw=>?_;rw[qAw];by_cases hji:j=i
     ·subst hji;show listed.getD j false=_;rw[hi0];simp
     ·refine hcommon j f hj (.inl ?_) hji;cases hc:bR f e with
      |true=>rfl
      |false=>exact((xZ hc hw).1 hn).elim
    ·have e1:(s.wr (aP D 0 es)).tmps.getD n .unk=.unk:=by rw[List.getD,qAn (by rw[(aX _ s).1];omega)];rfl
     have e2:(s.wr (aP (fun j=>decide (j<i)) 0 es)).tmps.getD n .unk=.unk:=by rw[List.getD,qAn (by rw[(aX _ s).1];omega)];rfl
     rw[e1,e2]
   ·by_cases hnl:n<s.heap.length
    ·rw[gX _ n s hnl,gX _ n s hnl];congr 1;refine o9 es 0 fun j f hj hw=>?_;rw[qAw];by_cases hji:j=i
     ·subst hji;show listed.getD j false=_;rw[hi0];simp
     ·refine hcommon j f hj (.inl ?_) hji;cases hc:bR f e with
      |true=>rfl
      |false=>exact((xW hc hw).1 hn).elim
    ·have e1:obj? (s.wr (aP D 0 es)).heap n=.dead:=by rw[obj?,qAn (by rw[(aX _ s).2];omega)];rfl
     have e2:obj? (s.wr (aP (fun j=>decide (j<i)) 0 es)).heap n=.dead:=by rw[obj?,qAn (by rw[(aX _ s).2];omega)];rfl
     rw[e1,e2]
  have hstep:=heff i o e hlo hei _ hagree;have hDi:∀j,(listed.setIfInBounds i true).getD j false=(D j ||decide (j=i)):=fun j=>by
   by_cases hji:i=j
   ·subst hji;simp[Array.getD,hlt]
   ·simp only[qAh,qBM hji,D];simp[qAZ hji]
  have hstate:(s.wr (aP D 0 es)).wr e.ws=s.wr (aP (fun j=>(listed.setIfInBounds i true).getD j false) 0 es):=by
   rw[←kg];refine ASt.ext' (by rw[(aX _ s).1,(aX _ s).1]) (by rw[(aX _ s).2,(aX _ s).2]) (fun n hn=>?_) (fun n hn=>?_)
   ·rw[(aX _ s).1]at hn;rw[jl _ n s hn,jl _ n s hn,vN];congr 1;by_cases hw:n∈gM e.ws
    ·rw[Ms (D:=fun j=>(listed.setIfInBounds i true).getD j false) es 0 i e hei (by rw[qAw,hDi];simp) hw (fun j f hj hij hD' hwf=>by
      rw[qAw,hDi]at hD';have hji:j≠i:=by omega
      have hDj:listed.getD j false=true:=by simpa[hji,D]using hD'
      have hc:bR f e=true:=by
       cases hc:bR f e with
       |true=>rfl
       |false=>exact((xZ hc hwf).2 hw).elim
      have:=hcommon j f hj (.inl hc) hji;rw[hDj]at this;have hlt':j<i:=by simpa using this.symm
      omega)]
     obtain⟨v,hv⟩:=CB hw;rw[hv];rfl
    ·rw[Ca hw,qBR];refine rZ es 0 fun j f hj hwf=>?_;rw[qAw,hDi];have hji:j≠i:=fun e'=>by subst e';rw[hei]at hj;cases hj;exact hw hwf
     simp[hji,D]
   ·rw[(aX _ s).2]at hn;rw[gX _ n s hn,gX _ n s hn,wB];congr 1;by_cases hw:n∈gL e.ws
    ·rw[LG (D:=fun j=>(listed.setIfInBounds i true).getD j false) es 0 i e hei (by rw[qAw,hDi];simp) hw (fun j f hj hij hD' hwf=>by
      rw[qAw,hDi]at hD';have hji:j≠i:=by omega
      have hDj:listed.getD j false=true:=by simpa[hji,D]using hD'
      have hc:bR f e=true:=by
       cases hc:bR f e with
       |true=>rfl
       |false=>exact((xW hc hwf).2 hw).elim
      have:=hcommon j f hj (.inl hc) hji;rw[hDj]at this;have hlt':j<i:=by simpa using this.symm
      omega)]
     obtain⟨v,hv⟩:=CS hw;rw[hv];rfl
    ·rw[BP hw,qBR];refine o9 es 0 fun j f hj hwf=>?_;rw[qAw,hDi];have hji:j≠i:=fun e'=>by subst e';rw[hei]at hj;cases hj;exact hw hwf
     simp[hji,D]
  have hnext:∀κ' a' w',Sim C κ' ((s.wr (aP D 0 es)).wr e.ws) a' w'→wpAny P .any l.toArray Q fuel (listed.setIfInBounds i true) a' w':=fun κ' a' w' hs2=>by
   rw[hstate]at hs2;refine ih (listed.setIfInBounds i true) κ' a' w' (by simpa using hsz) (by have:=Bn hlt h1;omega) ?_ hs2;intro j o' hj hlj p hp;rw[hDi]at hlj⊢;by_cases hji:j=i
   ·subst hji;rw[hlo]at hj;cases hj;simp only[gZ,qAQ,qBf]at hp;obtain⟨ed,⟨he1,he2⟩,rfl⟩:=hp;have:=h3 ed (by simpa using he1) he2;simp only[D,this,qBI]
   ·have hlj':listed.getD j false=true:=by simpa[hji,D]using hlj
    have:=hdown j o' hj hlj' p hp;simp only[D,this,qBI]
  unfold wpOp;rw[h2];dsimp only;rcases hstep with⟨hwd,ht⟩|⟨hwd,he⟩
  ·rw[eU hsim hwd];simp only[if_true];exact .inl (ht C κ a w hsim _ _ hnext)
  ·rw[eU hsim hwd];simp only[qAx,if_false];refine hnext κ _ w ?_;rw[he];exact hsim.aI _ jr
theorem dM.drawn{P:Program}{id:Nat}{l:List Oper}{es:List Eff}{Q:Exit→ASt→Prop}{s s':ASt}(n:Nat)(hm:P.follows .mixedOrders=true)(h:ATr P l.toArray l es (s.reserve n) s')(hok:iG l es=true)(hq:Q .normal s'):dM P (.region id l.toArray true) Q s:=by
 intro C κ a w hs;refine wp_region_any hm ?_;have hr:=(hs.reserve n).sameHeap (w':={w with drawn:=w.drawn+1}) rfl rfl rfl rfl;have hfl:aP (fun i=>(Array.replicate l.length false).getD i false) 0 es=[]:=by
  have hz:∀(D:Nat→Bool) (es:List Eff) (k:Nat),(∀i,D i=false)→aP D k es=[]:=fun D es=>by
   induction es with
   |nil=>intro k _;rfl
   |cons e es ih=>intro k hD;simp[aP,ih _ hD,hD]
  refine hz _ es 0 fun i=>?_;simp[Array.getD]
 have:=ait (C:=C) (Q:=fun e a' w'=>∃s'' κ',Q e s''∧Sim C κ' s'' a' w') h hok (fun κ' a' w' hs'=>⟨s',κ',hq,hs'⟩) l.length (Array.replicate l.length false) _ a _ (by simp) (by simp) (fun j o _ hl=>by simp[Array.getD]at hl) (by rw[hfl];exact hr)
 grind
def vQ(P:Program)(s:ASt):List ResultVar→Option (List AV)
 |[]=>some []
 | .tmp t::r=>(vQ P s r).map (s.tmps.getD t .unk::·)
 | .cell a t::r=>match s.tmps.getD a .unk with
  | .ptr l off=>match obj? s.heap l with
   | .box cs=>match jI P t (cs.drop off)with
    |some v=>(vQ P s r).map (v::·)
    |none=>none
   |_=>none
  |_=>none
def wh(wk:Bool):List AV→AV
 |[x]=>if wk then sO x else x
 |xs=>.tup (if wk then xs.map sO else xs)
def Mj(tmps:Array Value):ResultVar→Sem Value
 | .tmp t=>pure (tmps.getD t undef)
 | .cell a t=>do loadVar t (←asAddr (tmps.getD a undef))
theorem MF(fn:Func)(tmps:Array Value):results fn tmps=(do let vs ←fn.results.mapM (Mj tmps);pure (if h:vs.size=1 then vs[0]else .tuple vs)):=by
 congr 1
theorem JN{P:Program}{C:Ctx}{κ:bg}{s:ASt}{a:Act}{w:World}(hs:Sim C κ s a w):∀(rs:List ResultVar) (xs:List AV),vQ P s rs=some xs→
  ∃vs:List Value,vs.length=xs.length∧(∀j,j<xs.length→Rel w κ (aO C.aN κ s.heap) (xs.getD j .unk) (vs.getD j undef))∧(rs.mapM (Mj a.tmps)).run P w=.ok vs w:=by
 intro rs
 induction rs with
 |nil=>intro xs h;simp only[vQ,Option.some.injEq]at h;subst h;exact⟨[],rfl,fun j hj=>(by cases hj),by simp⟩
 |cons r rs ih=>
  intro xs h;have key:∀(v:AV) (u:Value) (ys:List AV),vQ P s rs=some ys→xs=v::ys→Rel w κ (aO C.aN κ s.heap) v u→(Mj a.tmps r).run P w=.ok u w→
    ∃vs:List Value,vs.length=xs.length∧(∀j,j<xs.length→Rel w κ (aO C.aN κ s.heap) (xs.getD j .unk) (vs.getD j undef))∧((r::rs).mapM (Mj a.tmps)).run P w=.ok vs w:=fun v u ys hys hxs hv hrun=>by
   obtain⟨vs,h1,h2,h3⟩:=ih ys hys;subst hxs;refine⟨u::vs,by simp[h1],fun j hj=>?_,?_⟩
   ·grind
   ·simp_all
  cases r with
  |tmp t=>
   simp only[vQ]at h;cases hys:vQ P s rs with
   |none=>rw[hys]at h;cases h
   |some ys=>
    rw[hys]at h;simp only[qAt,Option.some.injEq]at h;refine key _ (a.tmps.getD t undef) ys hys h.symm ?_ (by simp[Mj]);exact hs.ev (.tmp t)
  |cell x t=>
   simp only[vQ]at h;split at h
   ·rename_i l off hx;split at h
    ·rename_i cs hl;split at h
     ·rename_i v hv;cases hys:vQ P s rs with
      |none=>rw[hys]at h;cases h
      |some ys=>
       rw[hys]at h;simp only[qAt,Option.some.injEq]at h;have hr:=hs.ev (.tmp x);simp only[bC,Act.eval]at hr;rw[hx]at hr;obtain⟨b,e,hb⟩:=hr.tN;obtain⟨c,el,g1,g2,g3,g4⟩:=hs.box hb hl;obtain⟨y,g5,g6⟩:=Cx (P:=P) (w:=w) (κ:=κ) (pv:=aO C.aN κ s.heap) (b:=b) (off:=off) (cs:=cs.drop off) (fun j=>c.getD (off+j) undef)
        (fun j hj=>g3 _ (by simp at hj;omega)) (fun j hj=>by rw[getD_drop];exact g4 _ (by simp at hj;omega)) hv
       exact key v y ys hys h.symm g6 (by simp only[Mj,e];simp[asAddr,g5])
     ·cases h
    ·cases h
   ·cases h
def zU(P:Program)(rs:List ResultVar)(wk:Bool)(L:List Nat)(H:List AObj)(res:AV)(H':List AObj)(s:ASt):Prop:=
 ∃xs,vQ P s rs=some xs∧wh wk xs=ren (nm L s.heap.length) res∧L.Nodup∧H'.length=L.length∧H.length≤L.length∧(∀i,i<H.length→L[i]? =some i)∧(∀l∈L,l<s.heap.length)∧
  ∀i l,L[i]? =some l→obj? s.heap l=bN (nm L s.heap.length) (obj? H' i)
def Mx(R:ASt→Prop):Exit→ASt→Prop
 | .normal,s=>R s
 | .ret,s=>R s
 |_,_=>False
def bodyC(κ:bg)(aN:bB)(H:List AObj)(w:World)(ds:List Deferred):Ctx:={aN:=aN,old:=fun b=>b<w.heap.size∧∀l,at? κ l=some b→¬live (obj? H l),w0:=w,k0:=κ,pvE:=aO aN κ H,ds:=ds}
theorem He{P:Program}{fn:Func}{H H':List AObj}{res:AV}{wk:Bool}{L:List Nat}{κ:bg}{aN:bB}{w:World}(hen:Entry κ aN H w)(ds:List Deferred)(s:ASt)(κf:bg)(a:Act)(w':World)(hq:zU P fn.results.toList wk L H res H' s)(hs:Sim (bodyC κ aN H w ds) κf s a w'):
  ∃v,(results fn a.tmps).run P w'=.ok v w'∧∃v' κ',Ending.returned v=.returned v'∧Leave κ κ' aN H H' w w'∧Rel w' κ' (aO aN κ' H') res v':=by
 obtain⟨xs,q1,q2,q3,q4,q5,q6,q7,q8⟩:=hq;obtain⟨us,u1,u2,u3⟩:=JN hs _ _ q1
 let κ':bg:=L.map (at? κf)
 let g:=nm L s.heap.length
 have hat:∀i b,at? κ' i=some b→∃l,L[i]? =some l∧at? κf l=some b:=fun i b hb=>by
  simp only[κ']at hb;rw[at?_map]at hb
  grind
 have hdown:∀i,at? κ' i=at? κf (g i):=fun i=>by
  simp only[κ',g,nm];rw[at?_map];cases hi:L[i]? with
  |some l=>rfl
  |none=>simp only[qBz];rw[at?_none_of_le (by rw[hs.klen];exact qAc _)]
 have hpv:∀b o,aO aN κ' H' b o→aO aN κf s.heap b o:=by
  rintro b o (h|⟨i,h1,h2⟩)
  ·exact .inl h
  ·obtain⟨l,hl,hb⟩:=hat i b h1;exact .inr ⟨l,hb,by rw[q8 i l hl,BA];exact h2⟩
 have hrel:∀{x:AV} {u:Value},Rel w' κf (aO aN κf s.heap) (ren g x) u→Rel w' κ' (aO aN κ' H') x u:=fun hx=>
  (hx.vw hdown _ rfl).mono (Evo.refl _ _) (bV.refl _) (fun b o h _=>hpv b o h)
 have hleave:Leave κ κ' aN H H' w w':=by
  refine⟨by simp[κ',q4],by omega,?_,?_,?_,?_,?_,?_,?_,hs.iH,fun b o h hlt=>hs.pvsub b o (hpv b o h) hlt,hs.os,hs.tape,hs.output⟩
  ·intro i b hb;have hi:i<H.length:=by rw[←hen.klen];exact lt_of_at? hb
   rw[hdown i];have:g i=i:=by simp only[g,nm,q6 i hi];rfl
   rw[this];exact hs.kext i b hb
  ·intro i hi;rw[hdown i];cases h0:L[i]? with
   |none=>simp only[g,nm,h0,qBz];exact at?_none_of_le (by rw[hs.klen];exact qAc _)
   |some l=>
    simp only[g,nm,h0,qAi];exact hs.resv l (by rw[q8 i l h0,hi];rfl)
  ·intro i b h1 h2;obtain⟨l,hl,hb⟩:=hat i b h1;have:=hs.obj l b hb (by rw[q8 i l hl,jh];exact h2);rw[q8 i l hl]at this;exact(this.vw hdown).mono rfl (Evo.refl _ _) (bV.refl _) (fun b o h _=>hpv b o h)
  ·intro i b h1 h2;obtain⟨l,hl,hb⟩:=hat i b h1;have hno:=hs.own l b hb (by rw[q8 i l hl,jh];exact h2);by_cases hlt:b<w.heap.size
   ·right;apply qAT;intro hne;exact hno ⟨hlt,fun l0 h0 hlv=>hne ⟨l0,h0,hlv⟩⟩
   ·left;omega
  ·intro i j b h1 h2 h3 h4;obtain⟨l,hl,hb⟩:=hat i b h1;obtain⟨l',hl',hb'⟩:=hat j b h2;have e:=hs.apart l l' b hb hb' (by rw[q8 i l hl,jh];exact h3) (by rw[q8 j l' hl',jh];exact h4);subst e;exact(qCc (qAk.1 hl).1 q3).1 (hl.trans hl'.symm)
  ·intro i b h1;obtain⟨l,_,hb⟩:=hat i b h1;exact hs.bound l b hb
  ·intro b hb hnl;exact hs.old b ⟨hb,hnl⟩
 have hresrel:∀(x:AV) (u:Value),Rel w' κf (aO aN κf s.heap) x u→Rel w' κf (aO aN κf s.heap) (if wk then sO x else x) u:=fun x u hx=>by
  cases wk
  ·exact hx
  ·exact hx.sO
 have hrun:∃v,(results fn a.tmps).run P w'=.ok v w'∧Rel w' κf (aO aN κf s.heap) (wh wk xs) v:=by
  have hm:(fn.results.mapM (Mj a.tmps)).run P w'=.ok us.toArray w':=by
   rw[qBF];simp only[Sem.run_map,u3,Result.andThen_ok]
  rw[MF];simp only[Sem.run_bind,hm,Result.andThen_ok,Sem.run_pure];by_cases h1:us.length=1
  ·match us,h1 with
   |[u],_=>
    match xs,u1 with
    |[x],_=>
     refine⟨u,by simp,?_⟩;have:=u2 0 (by simp);simp only[List.getD,qAp,qAi]at this;exact hresrel x u this
  ·refine⟨.tuple us.toArray,by simp[h1],?_⟩;have hx:wh wk xs=.tup (if wk then xs.map sO else xs):=by
    match xs,u1 with
    |[],_=>rfl
    |[x],h=>exact(h1 (by simpa using h)).elim
    |_::_::_,_=>rfl
   rw[hx];refine .tup (by split<;>simp[u1]) fun j hj=>?_;have hj':j<xs.length:=by split at hj<;>simpa using hj
   have:=hresrel _ _ (u2 j hj');cases wk
   ·exact this
   ·simp only[if_true]at this⊢;have e:(xs.map sO).getD j .unk=sO (xs.getD j .unk):=by simp[List.getD,qAe hj']
    rw[e];exact this
 grind
theorem EI{P:Program}{f:Nat}{fn:Func}{c:Code}{args:List AV}{H H':List AObj}{res:AV}(wk:Bool)(L:List Nat)(hf:P.funcs[f]? =some fn)(hb:fn.body=some c)(hlen:args.length≤fn.ntmps)
  (h:dM P c (Mx (zU P fn.results.toList wk L H res H')) ⟨args++List.replicate (fn.ntmps - args.length) (.tup []),H⟩):ak P f args H res H':=by
 intro κ aN w vs hen hvl hr
 let C:Ctx:=bodyC κ aN H w []
 refine calls_of_wp hf hb ?_;have hsim:Sim C κ ⟨args++List.replicate (fn.ntmps - args.length) (.tup []),H⟩ {tmps:=vs.toArray++Array.replicate (fn.ntmps - vs.toArray.size) undef,defers:=[]} w:=by
  refine⟨rfl,by simp[hvl],?_,hen.klen,bV.refl _,hen.resv,hen.obj,hen.apart,fun l b h1 h2 ho=>ho.2 l h1 h2,hen.bound,fun b o h=>⟨hen.pvlt b o h,fun l hl=>hen.pvdis b o l h hl⟩,fun b hb=>hb.1,fun _ _=>rfl,rfl,rfl,rfl,qAc _,fun _ _ h _=>h,Evo.refl _ _⟩;intro n hn;by_cases hlt:n<args.length
  ·have e1:(args++List.replicate (fn.ntmps - args.length) (AV.tup [])).getD n .unk=args.getD n .unk:=by simp[qAf hlt]
   have e2:(vs.toArray++Array.replicate (fn.ntmps - vs.toArray.size) undef).getD n undef=vs.getD n undef:=by
    simp_all
   rw[e1,e2];exact hr n hlt
  ·have e1:(args++List.replicate (fn.ntmps - args.length) (AV.tup [])).getD n .unk=.tup []:=by
    grind
   have e2:(vs.toArray++Array.replicate (fn.ntmps - vs.toArray.size) undef).getD n undef=undef:=by
    simp_all
   rw[e1,e2];exact jr
 have hfin:∀(s:ASt) (κf:bg) (a:Act) (w':World),zU P fn.results.toList wk L H res H' s→Sim C κf s a w'→a.defers=[]∧∃v,(results fn a.tmps).run P w'=.ok v w'∧∃v' κ',Ending.returned v=.returned v'∧Leave κ κ' aN H H' w w'∧Rel w' κ' (aO aN κ' H') res v':=fun s κf a w' hq hs=>⟨hs.defers,He hen [] s κf a w' hq hs⟩;refine wp_mono (h C κ _ w hsim) ?_;rintro e a w' ⟨s,κf,hq,hs⟩;cases e with
 |normal=>exact hfin s κf a w' hq hs
 |ret=>exact hfin s κf a w' hq hs
 |exit id=>exact hq.elim
 |goto l=>exact hq.elim
 |panic c=>exact hq.elim
 |outgrown=>exact hq.elim
def bF(ops:Array Oper)(o:Oper):List Nat:=
 (o.op.operands.toList.filterMap fun| .tmp t=>some t|_=>none)++(match o.guard with|some (g,_)=>((ops[g]?).bind (·.dst)).toList|none=>[])
theorem zm{tm tm':List AV}{ops:Array Oper}{o:Oper}(h:∀n∈bF ops o,tm'.getD n .unk=tm.getD n .unk):∀x∈o.op.operands,bC tm' x=bC tm x:=by
 intro x hx;cases x with
 |tmp t=>exact h t (qBu _ (List.mem_filterMap.2 ⟨.tmp t,by simpa using hx,rfl⟩))
 |const v=>rfl
 |func f=>rfl
 |global g=>rfl
theorem oI{tm tm':List AV}{ops:Array Oper}{o:Oper}(h:∀n∈bF ops o,tm'.getD n .unk=tm.getD n .unk):d9 ops tm' o=d9 ops tm o:=by
 unfold d9;cases hg:o.guard with
 |none=>rfl
 |some p=>
  obtain⟨j,want⟩:=p;simp only;cases hd:(ops[j]?).bind (·.dst)with
  |none=>rfl
  |some d=>
   simp only;rw[h d (by unfold bF;rw[hg];simp[hd])]
theorem Ea{P:Program}{ops:Array Oper}{o:Oper}{s:ASt}{k:Nat}{rd:List Nat}{ws:List Wr}(hw:d9 ops s.tmps o=some true)(h:aV P k o (bC s.tmps) (obj? s.heap)=some (rd,ws)):vH P ops o s ⟨bF ops o,rd,ws⟩:=by
 intro t ht;refine .inl ⟨by rw[oI ht.rs];exact hw,Vx (k:=k) (rd:=rd) ?_⟩;exact Ov h (zm ht.rs) ht.ro
theorem AO{P:Program}{ops:Array Oper}{o:Oper}{s:ASt}(hw:d9 ops s.tmps o=some false):vH P ops o s ⟨bF ops o,[],aI o.dst (.tup [])⟩:=by
 intro t ht;exact .inr ⟨by rw[oI ht.rs];exact hw,rfl⟩
inductive Keep{α:Type}(a:α):Type where
 |mk:Keep a
def BN(P:Program)(f:Nat)(args:List AV)(dst:Option Tmp)(s:ASt)(k:Nat)(K:Nat→List Nat→List Wr→Prop)(_:Keep K):Prop:=
 aZ P f=true∧∃(ρ ks:List Nat) (aargs:List AV) (H:List AObj) (res:AV) (H':List AObj),Passes s ρ ks H∧H'.length=(ρ++ks).length∧SWs args (aargs.map (ren (nm (ρ++ks) s.heap.length)))∧ak P f aargs H res H'∧
  K (k+ks.length) (ρ++ks) (kM (ρ++ks) (H'.map (bN (nm (ρ++ks) s.heap.length)))++aI dst (ren (nm (ρ++ks) s.heap.length) res))
theorem AZ{P:Program}{ops:Array Oper}{o:Oper}{s:ASt}{fo:Operand}{args:Array Operand}{argTypes:Array TypeId}{f:Nat}{caps aargs:List AV}{ρ ks:List Nat}{H H':List AObj}{res:AV}(hw:d9 ops s.tmps o=some true)
  (ho:o.op=.call {callee:=.value fo,args,argTypes}) (hf:bC s.tmps fo=.func f caps) (hok:aZ P f=true) (hp:Passes s ρ ks H) (hH:H'.length=(ρ++ks).length)
  (hargs:SWs (args.toList.map (bC s.tmps)++caps) (aargs.map (ren (nm (ρ++ks) s.heap.length)))) (hc:ak P f aargs H res H'):
  vH P ops o s ⟨bF ops o,ρ++ks,kM (ρ++ks) (H'.map (bN (nm (ρ++ks) s.heap.length)))++aI o.dst (ren (nm (ρ++ks) s.heap.length) res)⟩:=by
 intro t ht;have hop:=zm ht.rs;have hfo:fo∈o.op.operands:=by rw[ho];simp[Op.operands,Call.operands]
 have hp':Passes t ρ ks H:=by
  refine⟨hp.nodup,hp.hlen,fun l hl=>by rw[ht.hl];exact hp.lt l hl,fun l hl=>by rw[ht.ro l (List.mem_append_right _ hl)];exact hp.res l hl,fun i l hi=>?_⟩;rw[ht.ro l (qBu _ (qAJ hi)),ht.hl];exact hp.obj i l hi
 have hmap:args.toList.map (bC t.tmps)=args.toList.map (bC s.tmps):=tL _ (fun x hx=>hop x (by rw[ho];simp only[Op.operands];exact qBh.2 (.inr (qAU.1 hx))));have:=ak9 (P:=P) (o:=o) (s:=t) ho (by rw[hop fo hfo];exact hf) hok hp' hH (by rw[hmap,ht.hl];exact hargs) hc;rw[ht.hl]at this;exact .inl ⟨by rw[oI ht.rs];exact hw,this⟩
def ji:Op→Nat
 | .alloc _=>1
 | .box _ _=>1
 | .makeMap _ _=>1
 | .buildSlice _ _ _=>1
 | .makeSlice _ _ _=>1
 | .call {callee:=.builtin .append,..}=>1
 |_=>0
def kZ:Op→Option (Operand×Array Operand)
 | .call {callee:=.value f,args,..}=>some (f,args)
 |_=>none
theorem uZ{op:Op}{f:Operand}{args:Array Operand}(h:kZ op=some (f,args)):∃t,op=.call {callee:=.value f,args,argTypes:=t}:=by
 unfold kZ at h
 grind
def Nn(r:Option Bool)(A B:Prop)(_:Keep (A,B)):Prop:=∃c,r=some c∧(c=true→A)∧(c=false→B)
def abN(r:Option (List Nat×List Wr))(f:List Nat→List Wr→Prop)(_:Keep f):Prop:=∃rd ws,r=some (rd,ws)∧f rd ws
def ac5(v:AV)(f:Nat→List AV→Prop)(_:Keep f):Prop:=∃fid caps,v=.func fid caps∧f fid caps
def yA(P:Program)(ops:Array Oper):List Oper→Nat→List Eff→ASt→(List Eff→ASt→Prop)→Prop
 |[],_,es,s,K=>K es.reverse s
 |o::l,k,es,s,K=>Nn (d9 ops s.tmps o)
   (match kZ o.op with
    |some (f,args)=>ac5 (bC s.tmps f) (fun fid caps=>BN P fid (args.toList.map (bC s.tmps)++caps) o.dst s k (fun k' ro ws=>yA P ops l k' (⟨bF ops o,ro,ws⟩::es) (s.wr ws) K) .mk) .mk
    |none=>abN (aV P k o (bC s.tmps) (obj? s.heap)) (fun rd ws=>yA P ops l (k+ji o.op) (⟨bF ops o,rd,ws⟩::es) (s.wr ws) K) .mk)
   (yA P ops l k (⟨bF ops o,[],aI o.dst (.tup [])⟩::es) (s.wr (aI o.dst (.tup []))) K) .mk
theorem RV{P:Program}{ops:Array Oper}:∀(l:List Oper) (k:Nat) (es:List Eff) (s:ASt) (K:List Eff→ASt→Prop),yA P ops l k es s K→∃es' s',ATr P ops l es' s s'∧K (es.reverse++es') s':=by
 intro l
 induction l with
 |nil=>intro k es s K h;exact⟨[],s,.nil s,by simpa[yA]using h⟩
 |cons o l ih=>
  intro k es s K h;obtain⟨c,hc,h1,h2⟩:=h;have fin:∀(e:Eff) (k':Nat),vH P ops o s e→yA P ops l k' (e::es) (s.wr e.ws) K→∃es' s',ATr P ops (o::l) es' s s'∧K (es.reverse++es') s':=fun e k' he hw=>by
   obtain⟨es',s',g1,g2⟩:=ih k' (e::es) _ K hw;exact⟨e::es',s',.cons he g1,by simpa using g2⟩
  cases c with
  |false=>exact fin _ k (AO hc) (h2 rfl)
  |true=>
   have h1:=h1 rfl;cases hcall:kZ o.op with
   |none=>
    rw[hcall]at h1;obtain⟨rd,ws,g1,g2⟩:=h1;exact fin _ _ (Ea hc g1) g2
   |some p=>
    rw[hcall]at h1;obtain⟨fid,caps,g1,hok,ρ,ks,aargs,H,res,H',g2,g3,g4,g5,g6⟩:=h1;obtain⟨t,ho⟩:=uZ hcall;exact fin _ _ (AZ hc ho g1 hok g2 g3 g4 g5) g6
theorem dM.apT{P:Program}{id:Nat}{l:List Oper}{Q:Exit→ASt→Prop}{s:ASt}(n:Nat)(hm:P.follows .mixedOrders=true)(h:yA P l.toArray l s.heap.length [] (s.reserve n) fun es s'=>iG l es=true∧Q .normal s'):dM P (.region id l.toArray true) Q s:=by
 obtain⟨es,s',h1,h2,h3⟩:=RV _ _ _ _ _ h;exact dM.drawn n hm h1 (by simpa using h2) h3
section
variable {P:Program}{k:Nat}{d:Option Tmp}{ty:TypeId}{ps:String}{af:Array Edge}{gd:Option (Nat×Bool)}{ρ:Operand→AV}{σ:Nat→AObj}
def nW(d:Option Tmp)(r:Option AV):Option (List Nat×List Wr):=r.map fun v=>([],aI d v)
def aby(P:Program)(t:TypeId)(σ:Nat→AObj)(d:Option Tmp):AV→Option (List Nat×List Wr)
 | .eptr cs=>nW d (jI P t cs)
 | .ptr l off=>match σ l with
  | .box cs=>(jI P t (cs.drop off)).map fun v=>([l],aI d v)
  | .arr z es=>if off=off/z*z∧off/z<es.length then(jI P t (es.getD (off/z) [])).map fun v=>([l],aI d v)else none
  |_=>none
 |_=>none
def WR(P:Program)(t:TypeId)(σ:Nat→AObj)(d:Option Tmp):AV→Option (List AV)→Option (List Nat×List Wr)
 | .ptr l off,some vs=>match σ l with
  | .box cs=>if sizeT P t=some vs.length∧off+vs.length≤cs.length∧vs.all isScalar then some ([l],.obj l (.box (cs.take off++vs++cs.drop (off+vs.length)))::aI d (.tup []))else none
  | .arr z es=>if sizeT P t=some vs.length∧vs.length=z∧off=off/z*z∧off/z<es.length∧vs.all isScalar then some ([l],.obj l (.arr z (es.set (off/z) vs))::aI d (.tup []))
   else if sizeT P t=some vs.length∧0<z∧off/z<es.length∧off%z+vs.length≤z∧vs.all isScalar then some ([l],.obj l (.arr z (es.set (off/z) ((es.getD (off/z) []).take (off%z)++vs++(es.getD (off/z) []).drop (off%z+vs.length))))::aI d (.tup []))else none
  |_=>none
 |_,_=>none
def akw(x:AV):Option AV:=match x with| .ptr l o=>some (.ptr l o)| .eptr cs=>some (.eptr cs)| .func f cs=>some (.func f cs)| .flist (cs::r)=>some (.eptr (cs++[.flist r]))|_=>none
def unK(op:UnOp)(x:AV):Option AV:=match op,x with| .not,.bool b=>some (.bool (!b))| .neg,.int k n=>some (.int k (k.wrap (0 - n)))|_,_=>none
def VJ(f:Option (Nat×TypeId))(x:AV):Option AV:=match f with|some (fo,_)=>(match x with| .ptr l o=>some (.ptr l (o+fo))| .eptr cs=>some (.eptr (cs.drop fo))|_=>none)|none=>none
def akT(st:Bool)(sl:Option Nat)(x:AV):Option AV:=match x with| .str s=>if st then some (.int .i64 s.length)else none| .slice es _=>if sl.isSome then some (.int .i64 es.length)else none| .psl _ _ n=>if sl.isSome then some (.int .i64 n)else none|_=>none
theorem agz(t:Nat)(x:Operand):aV P k ⟨d,.load t x,ty,ps,af,gd⟩ ρ σ=aby P t σ d (ρ x):=by
 unfold aV;simp only[aM];cases ρ x<;>simp only[aby]
 case eptr cs=>cases jI P t cs<;>rfl
 grind
theorem Tv(t:Nat)(x y:Operand):aV P k ⟨d,.store t x y,ty,ps,af,gd⟩ ρ σ=WR P t σ d (ρ x) (eD (ρ y)):=rfl
theorem al9(t:Nat):aV P k ⟨d,.alloc t,ty,ps,af,gd⟩ ρ σ=if dA (σ k)then(kU P t).map fun z=>([k],.obj k (.box z)::aI d (.ptr k 0))else none:=rfl
theorem apk(t:Nat)(x:Operand):aV P k ⟨d,.box t x,ty,ps,af,gd⟩ ρ σ=if dA (σ k)then(eD (ρ x)).map fun cs=>([k],.obj k (.box cs)::aI d (.ptr k 0))else none:=rfl
theorem ag8(t:Nat):aV P k ⟨d,.makeMap t none,ty,ps,af,gd⟩ ρ σ=if dA (σ k)then some ([k],.obj k (.mp [])::aI d (.mapr k))else none:=rfl
end
section
variable {P:Program}{ops:Array Oper}{l:List Oper}{k:Nat}{es:List Eff}{s:ASt}
end
end
section
open Go
abbrev Str:=List UInt8
inductive Ty where
 |mk (kind:Int) (name:Str) (kids:List Ty)
def Ty.kind:Ty→Int| .mk k _ _=>k
def Ty.name:Ty→Str| .mk _ n _=>n
def Ty.kids:Ty→List Ty| .mk _ _ ks=>ks
inductive Tm where
 |mk (op:Int) (name:Str) (n:Int) (ty:Ty) (kids:List Tm)
def Tm.op:Tm→Int| .mk k _ _ _ _=>k
def Tm.name:Tm→Str| .mk _ n _ _ _=>n
def Tm.n:Tm→Int| .mk _ _ n _ _=>n
def Tm.ty:Tm→Ty| .mk _ _ _ t _=>t
def Tm.kids:Tm→List Tm| .mk _ _ _ _ ks=>ks
mutual
def aC:Ty→List AV
 | .mk k n ks=>[.int .i64 k,.str n,.slice (Hq ks) .shared]
def Hq:List Ty→List (List AV)
 |[]=>[]
 |t::ts=>aC t::Hq ts
end
mutual
def vv:Tm→List AV
 | .mk k n m t ks=>[.int .i64 k,.str n,.int .i64 m]++aC t++[.slice (IL ks) .shared]
def IL:List Tm→List (List AV)
 |[]=>[]
 |t::ts=>vv t::IL ts
end
theorem Ni:∀ts,Hq ts=ts.map aC
 |[]=>rfl
 |t::ts=>by simp[Hq,Ni ts]
theorem M7:∀ts,IL ts=ts.map vv
 |[]=>rfl
 |t::ts=>by simp[IL,M7 ts]
@[go_sem] theorem bZ(t:Ty):aC t=[.int .i64 t.kind,.str t.name,.slice (t.kids.map aC) .shared]:=by
 cases t;simp[aC,Ni,Ty.kind,Ty.name,Ty.kids]
@[go_sem] theorem zi(t:Tm):vv t=[.int .i64 t.op,.str t.name,.int .i64 t.n,.int .i64 t.ty.kind,.str t.ty.name,.slice (t.ty.kids.map aC) .shared,.slice (t.kids.map vv) .shared]:=by
 cases t;simp[vv,M7,Tm.op,Tm.name,Tm.n,Tm.ty,Tm.kids,bZ]
mutual
theorem Qh(g:Nat→Nat):∀t,bD g (aC t)=aC t
 | .mk k n ks=>by simp only[aC,bD,ren,dK,Gv g ks]
theorem Gv(g:Nat→Nat):∀ts,bA g (Hq ts)=Hq ts
 |[]=>rfl
 |t::ts=>by simp only[Hq,bA,Qh g t,Gv g ts]
end
mutual
theorem P5(g:Nat→Nat):∀t,bD g (vv t)=vv t
 | .mk k n m (.mk a b c) ks=>by
  simp only[vv,aC,qBV,qAY,bD,ren,dK,MJ g ks,Gv g c]
theorem MJ(g:Nat→Nat):∀ts,bA g (IL ts)=IL ts
 |[]=>rfl
 |t::ts=>by simp only[IL,bA,P5 g t,MJ g ts]
end
theorem aoq(g:Nat→Nat)(ts:List Ty):bA g (ts.map aC)=ts.map aC:=by rw[←Ni];exact Gv g ts
theorem aou(g:Nat→Nat)(ts:List Tm):bA g (ts.map vv)=ts.map vv:=by rw[←M7];exact MJ g ts
end
section
open Go
inductive IxT where
 |sl (sz:Option Nat)
 |arr (len:Nat) (sz:Option Nat)
 |no
structure TI where
 size:Option Nat
 agg:Option Bool
 isPtr:Bool
 isBool:Bool
 isStr:Bool
 isStruct:Bool
 isSl:Bool
 int:Option IntKind
 ix:IxT
 field:List (Option (Nat×TypeId))
 place:List (Option (Nat×Nat))
 zero:Option (List AV)
 zav:Option AV
 slT:Option Nat
 elem:Option (TypeId×Nat×Nat)
 smap:Option TypeId
def intTy(P:Program)(t:TypeId):Option IntKind:=match P.underlying t with|some (.int k)=>some k|_=>none
def IK(P:Program)(t:TypeId):IxT:=match P.underlying t with|some (.slice e)=>.sl (sizeT P e)|some (.array n e)=>.arr n (sizeT P e)|_=>.no
def XO(P:Program)(t:TypeId):List (Option (Nat×TypeId)):=match P.underlying t with|some (.struct fs)=>fs.toList.map fun x=>(match sizeT P x.type with|some (_+1)=>some (x.offset,x.type)|_=>none)|_=>[]
def YL(P:Program)(t:TypeId):List (Option (Nat×Nat)):=match P.underlying t with|some (.struct fs)=>fs.toList.map fun f=>(sizeT P f.type).map fun n=>(f.offset,n)|_=>[]
def TI.of(P:Program)(t:TypeId):TI:=
 {size:=sizeT P t,agg:=IE P t,isPtr:=UM P t,isBool:=QO P t,isStr:=aM.isStrT P t,isStruct:=wR P t,isSl:=aV.isSliceT P t,int:=intTy P t,ix:=IK P t,field:=XO P t,place:=YL P t,zero:=kU P t,zav:=EP P t,slT:=aM.sliceT P t,elem:=kT P t,smap:=rU P t}
def lk{α:Type}:List (Option α)→Nat→Option α
 |[],_=>none
 |x::_,0=>x
 |_::l,n+1=>lk l n
theorem ami{α:Type}:∀(l:List (Option α)) (n:Nat),lk l n=(l[n]?).bind id:=by
 intro l
 induction l with
 |nil=>intro n;simp[lk]
 |cons a l ih=>intro n;cases n with
  |zero=>simp[lk]
  |succ n=>simp[lk,ih]
theorem Ji(P:Program)(s f:Nat):lk (TI.of P s).field f=xO P s f:=by
 rw[ami];show(XO P s)[f]?.bind id=_;unfold XO xO
 grind
theorem Zh(P:Program)(s f:Nat):lk (TI.of P s).place f=Al P s f:=by
 rw[ami];show(YL P s)[f]?.bind id=_;unfold YL Al
 grind
def aqc(n:Nat)(cs:List AV):Option AV:=if cs.length=n then some (.agg cs)else if n≤cs.length then some (.agg (cs.take n))else none
def loadT(τ:Nat→TI)(t:TypeId)(cs:List AV):Option AV:=
 match(τ t).agg with
 |some true=>match(τ t).size with
  |some n=>aqc n cs
  |none=>none
 |some false=>match cs with|[]=>none|c::_=>some c
 |none=>none
theorem Tn(P:Program)(t:TypeId)(cs:List AV):loadT (TI.of P) t cs=jI P t cs:=rfl
def Qw(τ:Nat→TI)(op:BinOp)(t:TypeId):AV→AV→Option AV
 | .int k a,.int k' b=>if k=k' then(match op with
  | .add=>some (.int k (k.wrap (a+b)))
  | .sub=>some (.int k (k.wrap (a - b)))
  | .mul=>some (.int k (k.wrap (a*b)))
  | .quo=>if b=0 then none else some (.int k (k.wrap (a.tdiv b)))
  | .rem=>if b=0 then none else some (.int k (a.tmod b))
  | .eql=>some (.bool (a==b))
  | .neq=>some (.bool (a !=b))
  | .lss=>some (.bool (decide (a<b)))
  | .leq=>some (.bool (decide (a≤b)))
  | .gtr=>some (.bool (decide (b<a)))
  | .geq=>some (.bool (decide (b≤a)))
  | .shl=>if 0≤b∧b≤k.bits then some (.int k (k.wrap (a*2^b.toNat)))else none
  | .shr=>if 0≤b∧b≤k.bits then some (.int k (a.fdiv (2^b.toNat)))else none
  |_=>none)else akR op k a b
 | .str a,.str b=>match op with
  | .add=>if a.length+b.length≤9223372036854775807 then some (.str (a++b))else none
  | .eql=>some (.bool (a==b))
  | .neq=>some (.bool (!(a==b)))
  | .lss=>some (.bool (Op.bytesLess a b))
  | .leq=>some (.bool (Op.bytesLess a b ||a==b))
  | .gtr=>some (.bool (!(Op.bytesLess a b ||a==b)))
  | .geq=>some (.bool (!(Op.bytesLess a b)))
  |_=>none
 | .bool a,.bool b=>if(τ t).isBool then(match op with
  | .eql=>some (.bool (a==b))
  | .neq=>some (.bool (!(a==b)))
  |_=>none)else none
 |x,.nilp=>if(τ t).isPtr then(match op,E8 x with
  | .eql,some b=>some (.bool b)
  | .neq,some b=>some (.bool (!b))
  |_,_=>none)else none
 |_,_=>none
end
section
open Go
def iI:Bool→Prop→Prop→Prop
 |true,A,_=>A
 |false,_,B=>B
def iN{α:Type}:Option α→(α→Prop)→Prop
 |some x,K=>K x
 |none,_=>False
theorem bQ{b:Bool}{A B:Prop}(h:iI b A B):(b=true∧A)∨(b=false∧B):=by cases b<;>simp_all [iI]
theorem dD{α:Type}{r:Option α}{K:α→Prop}(h:iN r K):∃x,r=some x∧K x:=by cases r with|none=>exact h.elim|some x=>exact⟨x,rfl,h⟩
def atz(es:List (List AV))(n:Int)(sz:Nat)(K:AV→Prop):Prop:=∃cs,es[n.toNat]? =some cs∧0≤n∧cs.length=sz∧K (.eptr cs)
def aoz(s:List UInt8)(n:Int)(K:AV→Prop):Prop:=(0≤n∧n<s.length)∧K (.int .u8 (s.getD n.toNat 0).toNat)
def atO(a b:List UInt8)(K:AV→Prop):Prop:=a.length+b.length≤9223372036854775807∧K (.str (a++b))
def as9(s:List UInt8)(lo hi:Option AV)(K:AV→Prop):Prop:=∃l h,eB hi s.length s.length=some h∧eB lo 0 h=some l∧K (.str ((s.drop l).take (h - l)))
def auh(es:List (List AV))(sz:Nat)(lo hi:Option AV)(K:AV→Prop):Prop:=∃l h,eB hi es.length es.length=some h∧eB lo 0 h=some l∧(l<es.length→(es.getD l []).length=sz)∧K (.slice ((es.drop l).take (h - l)) .shared)
def apN(n:Int)(len:Nat)(K:Prop):Prop:=(0≤n∧n<len)∧K
def akY(ys:List (List AV))(sz bytes:Nat)(K:Prop):Prop:=(ys.length*bytes≤140737488355328∧ys.length≤140737488355328∧(ys.all (bX sz)=true))∧K
def akN(n:Nat)(es ys:List (List AV))(sz bytes:Nat)(K:Prop):Prop:=(n=es.length*sz∧(es.length+ys.length)*bytes≤140737488355328∧es.length+ys.length≤140737488355328∧(es.all (bX sz)=true)∧(ys.all (bX sz)=true))∧K
def atZ(es:List (List UInt8×AV))(K:Prop):Prop:=es.length<140737488355328∧K
def ase(es:List (List UInt8×AV))(s:List UInt8)(A:AV→Prop)(B:Prop):Prop:=(∀v,rH es s=some v→A v)∧(rH es s=none→B)
def aey(K:AV→Prop):IxT→AV→AV→Prop
 | .sl (some sz),.slice es _,.int _ n=>atz es n sz K
 | .arr len (some sz),.ptr l o,.int _ n=>apN n len (K (.ptr l (o+n.toNat*sz)))
 | .arr len (some sz),.eptr cs,.int _ n=>apN n len (K (.eptr (cs.drop (n.toNat*sz))))
 |_,_,_=>False
def cutV(isStr:Bool)(slT:Option Nat)(lo hi:Option AV)(K:AV→Prop):AV→Prop
 | .str s=>iI isStr (as9 s lo hi K) False
 | .slice es _=>iN slT fun sz=>auh es sz lo hi K
 |_=>False
def JW(τ:Nat→TI)(op:BinOp)(t:TypeId)(x y:AV)(K:AV→Prop):Prop:=
 match op,x,y with
 | .add,.str a,.str b=>atO a b K
 |op,x,y=>iN (Qw τ op t x y) K
def aii(σ:Nat→AObj)(k sz bytes:Nat)(d:Option Tmp)(K:List Nat→List Wr→Prop):AV→AV→Prop
 | .slice [] .nils,.slice ys _=>iI (dA (σ k)) (akY ys sz bytes (K [k] (.obj k (.tip (ys.length*sz))::aI d (.slice ys (.tip k sz))))) False
 | .slice es (.tip l z),.slice ys _=>match σ l with
  | .tip n=>iI (dA (σ k)&&z==sz) (akN n es ys sz bytes (K [l,k] (.obj l .dead:: .obj k (.tip ((es++ys).length*sz))::aI d (.slice (es++ys) (.tip k sz))))) False
  |_=>False
 |_,_=>False
def stepT(τ:Nat→TI)(k:Nat)(d:Option Tmp)(ρ:Operand→AV)(σ:Nat→AObj)(K:List Nat→List Wr→Prop):Op→Prop
 | .move x=>K [] (aI d (ρ x))
 | .assign x=>K [] (aI d (ρ x))
 | .pick c x y=>match ρ c with
  | .bool b=>iI b (K [] (aI d (ρ x))) (K [] (aI d (ρ y)))
  |_=>False
 | .nilCheck x=>iN (akw (ρ x)) fun v=>K [] (aI d v)
 | .binOp op t x y _=>JW τ op t (ρ x) (ρ y) fun v=>K [] (aI d v)
 | .unOp op _ x=>iN (unK op (ρ x)) fun v=>K [] (aI d v)
 | .fieldAddr s x f=>iN (VJ (lk (τ s).field f) (ρ x)) fun v=>K [] (aI d v)
 | .field s x f=>iN (lk (τ s).field f) fun p=>match ρ x with
  | .agg cs=>iN (loadT τ p.2 (cs.drop p.1)) fun v=>K [] (aI d v)
  |_=>False
 | .indexAddr t x i=>aey (fun v=>K [] (aI d v)) (τ t).ix (ρ x) (ρ i)
 | .index t x i=>match ρ x,ρ i with
  | .str s,.int _ n=>iI (τ t).isStr (aoz s n fun v=>K [] (aI d v)) False
  |_,_=>False
 | .extract x i=>match ρ x with
  | .tup vs=>iN (vs[i]?) fun v=>K [] (aI d v)
  |_=>False
 | .slice t x lo hi none=>cutV (τ t).isStr (τ t).slT (lo.map ρ) (hi.map ρ) (fun v=>K [] (aI d v)) (ρ x)
 | .build t parts=>iI (τ t).isStruct (iN (τ t).zero fun z=>iN (kR (lk (τ t).place) z (parts.toList.map fun p=>(p.1,ρ p.2))) fun cs=>K [] (aI d (.agg cs))) False
 | .makeFunc (.func f) first captured=>iI (first.toList.isEmpty) (K [] (aI d (.func f (captured.toList.map ρ)))) False
 | .load t x=>match ρ x with
  | .eptr cs=>iN (loadT τ t cs) fun v=>K [] (aI d v)
  | .ptr l off=>match σ l with
   | .box cs=>iN (loadT τ t (cs.drop off)) fun v=>K [l] (aI d v)
   |_=>False
  |_=>False
 | .store t x y=>match ρ x with
  | .ptr l off=>iN (eD (ρ y)) fun vs=>match σ l with
   | .box cs=>iI (decide ((τ t).size=some vs.length∧off+vs.length≤cs.length)&&vs.all isScalar) (K [l] (.obj l (.box (cs.take off++vs++cs.drop (off+vs.length)))::aI d (.tup []))) False
   |_=>False
  |_=>False
 | .alloc t=>iI (dA (σ k)) (iN (τ t).zero fun z=>K [k] (.obj k (.box z)::aI d (.ptr k 0))) False
 | .box _ x=>iI (dA (σ k)) (iN (eD (ρ x)) fun cs=>K [k] (.obj k (.box cs)::aI d (.ptr k 0))) False
 | .makeMap _ none=>iI (dA (σ k)) (K [k] (.obj k (.mp [])::aI d (.mapr k))) False
 | .buildSlice t len parts=>iN (τ t).elem fun e=>iN (τ e.1).zero fun z=>iI (dA (σ k)&&(decide (len*e.2.1≤16777216)&&(decide (len≤16777216)&&(decide (z.length=e.2.1)&&!Un len parts.toList z)))) (iN (kR (fun i=>some (i*e.2.1,e.2.1)) ((List.replicate len z).flatten) (parts.toList.map fun p=>(p.1,ρ p.2))) fun cs=>K [k] (.obj k (.tip (len*e.2.1))::aI d (.slice (chunks e.2.1 len (cs.map shr)) (.tip k e.2.1)))) False
 | .convert s t x=>match ρ x with
  | .int _ n=>iI (τ s).int.isSome (iN (τ t).int fun k=>K [] (aI d (.int k (k.wrap n)))) False
  |_=>False
 | .call {callee:=.builtin .len,args,argTypes}=>match args.toList,argTypes.toList with
  |[x],[t]=>iN (akT (τ t).isStr (τ t).slT (ρ x)) fun v=>K [] (aI d v)
  |_,_=>False
 | .call {callee:=.builtin .append,args,argTypes}=>match args.toList,argTypes.toList with
  |[x,y],[t,t2]=>iN (τ t).elem fun e=>iI (τ t2).isSl (aii σ k e.2.1 e.2.2 d K (ρ x) (ρ y)) False
  |_,_=>False
 | .call {callee:=.builtin .max,args,argTypes:=_}=>match args.toList with
  |[x,y]=>match ρ x,ρ y with
   | .int k a,.int k' b=>iI (decide (k=k')) (K [] (aI d (.int k (if b>a then b else a)))) False
   |_,_=>False
  |_=>False
 | .call {callee:=.builtin .min,args,argTypes:=_}=>match args.toList with
  |[x,y]=>match ρ x,ρ y with
   | .int k a,.int k' b=>iI (decide (k=k')) (K [] (aI d (.int k (if b<a then b else a)))) False
   |_,_=>False
  |_=>False
 | .lookup t m key ok=>iN (τ t).smap fun e=>match ρ m,ρ key with
  | .mapr l,.str s=>match σ l with
   | .mp es=>iN (τ e).zav fun z=>ase es s (fun v=>K [l] (aI d (zA (some v) ok z))) (K [l] (aI d (zA none ok z)))
   |_=>False
  |_,_=>False
 | .mapUpdate t m key x=>iN (τ t).smap fun _=>match ρ m,ρ key with
  | .mapr l,.str s=>match σ l with
   | .mp es=>atZ es (K [l] (.obj l (.mp (CK es s (sO (ρ x))))::aI d (.tup [])))
   |_=>False
  |_,_=>False
 |_=>False
end
end Abs
end Go.Proofs.YtkopaeklihhdlaaGreat

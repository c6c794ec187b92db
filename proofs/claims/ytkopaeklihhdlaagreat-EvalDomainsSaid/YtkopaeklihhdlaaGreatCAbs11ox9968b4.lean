/-
  The effects of an operation on an abstract state: which objects it reads, which slots and objects it writes. Conditions: none; definitions and lemmas over any program.
-/
import Derived.Test.YtkopaeklihhdlaaGreatCAbs1ox1de2ba
set_option linter.all false
namespace Go.Proofs.YtkopaeklihhdlaaGreat
namespace Abs
section
open Go
inductive Wr where
 |slot (n:Nat) (v:AV)
 |obj (l:Nat) (o:AObj)
def ASt.Gi(s:ASt):Wr→ASt
 | .slot n v=>s.setSlot n v
 | .obj l o=>s.setObj l o
def ASt.wr(s:ASt)(l:List Wr):ASt:=l.foldl ASt.Gi s
def aI(d:Option Tmp)(v:AV):List Wr:=match d with|some n=>[.slot n v]|none=>[]
def isScalar:AV→Bool
 | .unk=>false
 | .agg _=>false
 | .tup _=>false
 |_=>true
def bX(sz:Nat)(e:List AV):Bool:=e.length==sz&&e.all isScalar
def dA:AObj→Bool
 | .res=>true
 |_=>false
def chunks(sz:Nat):Nat→List AV→List (List AV)
 |0,_=>[]
 |n+1,cs=>cs.take sz::chunks sz n (cs.drop sz)
def rH(es:List (List UInt8×AV))(k:List UInt8):Option AV:=(es.find? fun p=>p.1==k).map (·.2)
def CK(es:List (List UInt8×AV))(k:List UInt8)(v:AV):List (List UInt8×AV):=
 match es with
 |[]=>[(k,v)]
 |p::r=>if p.1==k then(k,v)::r else p::CK r k v
def zA(f:Option AV)(ok:Bool)(z:AV):AV:=
 match f,ok with
 |some v,true=>.tup [v,.bool true]
 |some v,false=>v
 |none,true=>.tup [z,.bool false]
 |none,false=>z
def shr:AV→AV
 | .slice es _=>.slice es .shared
 |v=>v
def sO:AV→AV
 | .agg cs=>.agg (cs.map shr)
 |v=>shr v
def adU:Value→AV
 | .agg cs=>.agg (cs.toList.map ofConst)
 |v=>ofConst v
def EP(P:Program)(t:TypeId):Option AV:=(P.info? t).bind fun i=>i.zero.map adU
def kT(P:Program)(t:TypeId):Option (TypeId×Nat×Nat):=
 match P.underlying t with
 |some (.slice e)=>(P.info? e).bind fun i=>if(i.zero.map fun z=>z.cells.size)=some i.size then some (e,i.size,i.bytes)else none
 |_=>none
def rU(P:Program)(t:TypeId):Option TypeId:=
 match P.underlying t with
 |some (.map k e)=>match P.underlying k with|some .string=>some e|_=>none
 |_=>none
def eqNil(P:Program)(b:BinOp)(t:TypeId)(v:AV)(y:Operand):Option Bool:=match b,y,P.underlying t,v with
 | .eql,.const (.slice none 0 0),some (.slice _),.slice (_::_) _=>some false
 | .eql,.const (.slice none 0 0),some (.slice _),.slice [] .nils=>some true
 |_,_,_,_=>none
def Un(_:Nat)(_:List (Nat×Operand))(_:List AV):Bool:=false
theorem agP{len:Nat}{ps:List (Nat×Operand)}{z:List AV}(h:Un len ps z=true):len=0∧ps=[]:=by cases h
def aV(P:Program)(k:Nat)(o:Oper)(ρ:Operand→AV)(σ:Nat→AObj):Option (List Nat×List Wr):=
 match aM P o.op ρ with
 |some v=>some ([],aI o.dst v)
 |none=>match o.op with
  | .load t x=>match ρ x with
   | .ptr l off=>match σ l with
    | .box cs=>(jI P t (cs.drop off)).map fun v=>([l],aI o.dst v)
    | .arr z es=>if off=off/z*z∧off/z<es.length then(jI P t (es.getD (off/z) [])).map fun v=>([l],aI o.dst v)else none
    |_=>none
   |_=>none
  | .store t x y=>match ρ x,eD (ρ y)with
   | .ptr l off,some vs=>match σ l with
    | .box cs=>if sizeT P t=some vs.length∧off+vs.length≤cs.length∧vs.all isScalar then some ([l],.obj l (.box (cs.take off++vs++cs.drop (off+vs.length)))::aI o.dst (.tup []))else none
    | .arr z es=>if sizeT P t=some vs.length∧vs.length=z∧off=off/z*z∧off/z<es.length∧vs.all isScalar then some ([l],.obj l (.arr z (es.set (off/z) vs))::aI o.dst (.tup []))
     else if sizeT P t=some vs.length∧0<z∧off/z<es.length∧off%z+vs.length≤z∧vs.all isScalar then some ([l],.obj l (.arr z (es.set (off/z) ((es.getD (off/z) []).take (off%z)++vs++(es.getD (off/z) []).drop (off%z+vs.length))))::aI o.dst (.tup []))else none
    |_=>none
   |_,_=>none
  | .binOp b t x y _=>(eqNil P b t (ρ x) y).map fun v=>([],aI o.dst (.bool v))
  | .alloc t=>if dA (σ k)then(kU P t).map fun z=>([k],.obj k (.box z)::aI o.dst (.ptr k 0))else none
  | .box _ x=>if dA (σ k)then(eD (ρ x)).map fun cs=>([k],.obj k (.box cs)::aI o.dst (.ptr k 0))else none
  | .makeMap _ none=>if dA (σ k)then some ([k],.obj k (.mp [])::aI o.dst (.mapr k))else none
  | .buildSlice t len parts=>match kT P t with
   |some (e,sz,_)=>match kU P e with
    |some z=>if dA (σ k)∧len*sz≤16777216∧len≤16777216∧z.length=sz then(kR (fun i=>some (i*sz,sz)) ((List.replicate len z).flatten) (parts.toList.map fun p=>(p.1,ρ p.2))).map fun cs=>bif Un len parts.toList z then([k],.obj k (.arr sz [])::aI o.dst (.psl k sz 0))else([k],.obj k (.tip (len*sz))::aI o.dst (.slice (chunks sz len (cs.map shr)) (.tip k sz)))else none
    |none=>none
   |none=>none
  | .call {callee:=.builtin .append,args,argTypes}=>match args.toList,argTypes.toList with
   |[x,y],[t,t2]=>match kT P t,isSliceT P t2,ρ x,ρ y with
    |some (_,sz,bytes),true,.slice es .nils,.slice ys _=>
     if dA (σ k)∧es=[]∧ys.length*bytes≤140737488355328∧ys.length≤140737488355328∧(ys.all (bX sz)=true)then
      some ([k],.obj k (.tip (ys.length*sz))::aI o.dst (.slice ys (.tip k sz)))else none
    |some (_,sz,bytes),true,(.slice es (.tip l z)),.slice ys _=>match σ l with
     | .tip n=>if dA (σ k)∧n=es.length*sz∧z=sz∧(es.length+ys.length)*bytes≤140737488355328∧es.length+ys.length≤140737488355328∧(es.all (bX sz)=true)∧(ys.all (bX sz)=true)then
       some ([l,k],.obj l .dead:: .obj k (.tip ((es++ys).length*sz))::aI o.dst (.slice (es++ys) (.tip k sz)))else none
     |_=>none
    |some (_,sz,bytes),true,.psl l z n,.slice ys _=>match σ l with
     | .arr z' es=>if dA (σ k)∧z=sz∧z'=sz∧n≤es.length∧(n+ys.length)*bytes≤140737488355328∧n+ys.length≤140737488355328∧(es.all (bX sz)=true)∧(ys.all (bX sz)=true)then
       some ([l,k],.obj l .dead:: .obj k (.arr sz (es.take n++ys))::aI o.dst (.psl k sz (es.take n++ys).length))else none
     |_=>none
    |some (_,sz,bytes),true,.slice es (.full n),.slice ys _=>
     if dA (σ k)∧n≤es.length∧(es.length+ys.length)*bytes≤140737488355328∧es.length+ys.length≤140737488355328∧(es.all (bX sz)=true)∧(ys.all (bX sz)=true)then
      some ([k],.obj k .dead::aI o.dst (.slice (es++ys) .shared))else none
    |_,_,_,_=>none
   |_,_=>none
  | .makeSlice t x y=>match kT P t,ρ x,ρ y with
   |some (e,sz,bytes),.int _ l,.int _ c=>match kU P e with
    |some z=>if dA (σ k)∧0≤l∧l≤c∧bytes*c≤281474976710656∧c≤140737488355328∧z.length=sz then some ([k],.obj k (.arr sz (List.replicate l.toNat z))::aI o.dst (.psl k sz l.toNat))else none
    |none=>none
   |_,_,_=>none
  | .lookup t m key ok=>match rU P t,ρ m,ρ key with
   |some e,.mapr l,.str s=>match σ l,EP P e with
    | .mp es,some z=>some ([l],aI o.dst (zA (rH es s) ok z))
    |_,_=>none
   |_,_,_=>none
  | .mapUpdate t m key x=>match rU P t,ρ m,ρ key with
   |some _,.mapr l,.str s=>match σ l with
    | .mp es=>if es.length<140737488355328 then some ([l],.obj l (.mp (CK es s (sO (ρ x))))::aI o.dst (.tup []))else none
    |_=>none
   |_,_,_=>none
  |_=>none
where
 isSliceT (P:Program) (t:TypeId):Bool:=match P.underlying t with|some (.slice _)=>true|_=>false
def tu(P:Program)(o:Oper)(s s':ASt):Prop:=
 ∀(C:Ctx) (κ:bg) (a:Act) (w:World),Sim C κ s a w→∀(next:Act→World→Prop) (Q:Exit→Act→World→Prop),(∀κ' a' w',Sim C κ' s' a' w'→next a' w')→o.wp P a w next Q
theorem Sim.aI{C:Ctx}{κ:bg}{s:ASt}{a:Act}{w:World}(h:Sim C κ s a w)(d:Option Tmp){v:AV}{u:Value}(hv:Rel w κ (aO C.aN κ s.heap) v u):Sim C κ (s.wr (aI d v)) (a.put d u) w:=by
 cases d with
 |none=>exact h
 |some n=>exact h.put hv
theorem mF{P:Program}{o:Oper}{s s':ASt}(h:∀C κ a w,Sim C κ s a w→∃u κ' w',(execOp a.eval o).run P w=.ok (.value u) w'∧Sim C κ' s' (a.put o.dst u) w'):tu P o s s':=by
 intro C κ a w hs next Q hn
 obtain⟨u,κ',w',h1,h2⟩:=h C κ a w hs;unfold Oper.wp;rw[h1];exact hn _ _ _ h2
theorem MB{P:Program}{o:Oper}{s s':ASt}(h:∀C κ a w,Sim C κ s a w→∃κ' w',(execOp a.eval o).run P w=.ok .skip w'∧Sim C κ' s' (a.put o.dst undef) w'):tu P o s s':=by
 intro C κ a w hs next Q hn
 obtain⟨κ',w',h1,h2⟩:=h C κ a w hs;unfold Oper.wp;rw[h1];exact hn _ _ _ h2
theorem jr{w:World}{κ:bg}{pv:bB}:Rel w κ pv (.tup []) undef:=by
 have:=Rel.tup (w:=w) (κ:=κ) (pv:=pv) (cs:=[]) (vs:=[]) rfl (fun j hj=>by cases hj);simpa[undef]using this
theorem ab5{P:Program}{o:Oper}{s:ASt}{v:AV}(h:aM P o.op (bC s.tmps)=some v):tu P o s (s.wr (aI o.dst v)):=
 mF fun C κ a w hs=>by
  obtain⟨u,h1,h2⟩:=aiA (o:=o) (fun x=>hs.ev x) h;exact⟨u,κ,w,h1,hs.aI o.dst h2⟩
theorem alN{P:Program}{o:Oper}{s:ASt}{t:TypeId}{x:Operand}{l off:Nat}{cs:List AV}{v:AV}(ho:o.op=.load t x)(hx:bC s.tmps x=.ptr l off)(hl:obj? s.heap l=.box cs)(h:jI P t (cs.drop off)=some v):
  tu P o s (s.wr (aI o.dst v)):=
 mF fun C κ a w hs=>by
  have hr:=hs.ev x;rw[hx]at hr;obtain⟨b,e,hb⟩:=hr.tN;obtain⟨c,el,h1,h2,h3,h4⟩:=hs.box hb hl;obtain⟨y,h5,h6⟩:=Cx (P:=P) (w:=w) (κ:=κ) (pv:=aO C.aN κ s.heap) (b:=b) (off:=off) (cs:=cs.drop off) (fun j=>c.getD (off+j) undef)
   (fun j hj=>h3 _ (by simp at hj;omega)) (fun j hj=>by rw[getD_drop];exact h4 _ (by simp at hj;omega)) h
  exact⟨y,κ,w,by simp[execOp,ho,Instr.loadAt,e,Instr.sureAddr,h5],hs.aI o.dst h6⟩
theorem X8{P:Program}{o:Oper}{s:ASt}{k:Nat}{ao:AObj}{v:AV}(hk:dA (obj? s.heap k)=true)(hnr:ao≠ .res)
  (h:∀C κ a w,Sim C κ s a w→∃u ob,(execOp a.eval o).run P w=.ok (.value u) {w with heap:=w.heap.push ob}∧
   nE {w with heap:=w.heap.push ob} (κ.set k (some w.heap.size)) (aO C.aN (κ.set k (some w.heap.size)) (s.heap.set k ao)) w.heap.size ao∧
   Rel {w with heap:=w.heap.push ob} (κ.set k (some w.heap.size)) (aO C.aN (κ.set k (some w.heap.size)) (s.heap.set k ao)) v u):
  tu P o s (s.wr (.obj k ao::aI o.dst v)):=
 mF fun C κ a w hs=>by
  obtain⟨u,ob,h1,h2,h3⟩:=h C κ a w hs;have hres:obj? s.heap k=.res:=by revert hk;cases obj? s.heap k<;>simp[dA]
  have hlt:k<s.heap.length:=by
   apply qAT;intro hn;rw[obj?,qAn (by omega)]at hres;cases hres
  have hsim:=hs.new (hs.resv k hres) hlt ob ao hnr h2;exact⟨u,_,_,h1,hsim.aI o.dst h3⟩
theorem Y4{C:Ctx}{κ:bg}{s:ASt}{a:Act}{w:World}(hs:Sim C κ s a w){k:Nat}{ao:AObj}(hres:obj? s.heap k=.res)(hlt:k<s.heap.length)(ob:Obj){v:AV}{u:Value}(h:Rel w κ (aO C.aN κ s.heap) v u):
  Rel {w with heap:=w.heap.push ob} (κ.set k (some w.heap.size)) (aO C.aN (κ.set k (some w.heap.size)) (s.heap.set k ao)) v u:=by
 have hlk:k<κ.length:=by rw[hs.klen];exact hlt
 refine h.mono (Evo.push ob) (fun l b hb=>?_) ?_
 ·rw[at?_set_other];exact hb;intro e;subst e;rw[hs.resv _ hres]at hb;cases hb
 ·rintro b off (hb|⟨l,h1,h2⟩) hlt'
  ·exact .inl hb
  ·by_cases hl:k=l
   ·subst hl;rw[at?_set_same hlk]at h1;cases h1;omega
   ·rw[at?_set_other hl]at h1;rw[obj?_set_other hl]at h2;exact .inr ⟨l,h1,h2⟩
theorem vT{H:List AObj}{k:Nat}(hk:dA (obj? H k)=true):obj? H k=.res∧k<H.length:=by
 have hres:obj? H k=.res:=by revert hk;cases obj? H k<;>simp[dA]
 refine⟨hres,?_⟩;apply qAT;intro hn;rw[obj?,qAn (by omega)]at hres;cases hres
theorem sw{w:World}{ob:Obj}:({w with heap:=w.heap.push ob}:World).heap[w.heap.size]? =some ob:=by simp
theorem anF{P:Program}{o:Oper}{s:ASt}{t:TypeId}{x:Operand}{k:Nat}{cs:List AV}(ho:o.op=.box t x)(hk:dA (obj? s.heap k)=true)(hx:eD (bC s.tmps x)=some cs):
  tu P o s (s.wr (.obj k (.box cs)::aI o.dst (.ptr k 0))):=by
 refine X8 hk (by simp) fun C κ a w hs=>?_;obtain⟨hres,hlt⟩:=vT hk;obtain⟨h1,h2⟩:=Fg (hs.ev x) hx;refine⟨.pointer (some ⟨w.heap.size,0,none⟩),.cells (a.eval x).cells t (0,0),by simp[execOp,ho,Instr.box,newVar,newRow],⟨_,_,sw,h1,fun j hj=>Y4 hs hres hlt _ (h2 j hj)⟩,.ptr ?_⟩;exact at?_set_same (by rw[hs.klen];exact hlt)
theorem Vw{P:Program}{t:TypeId}{z:List AV}(h:kU P t=some z):∃zv:Value,(∀w:World,(zeroValue t).run P w=.ok zv w)∧zv.cells.size=z.length∧∀(w:World) (κ:bg) (pv:bB) (j:Nat),j<z.length→Rel w κ pv (z.getD j .unk) (zv.cells.getD j undef):=by
 unfold kU at h;cases hi:P.info? t with
 |none=>rw[hi]at h;cases h
 |some i=>
  rw[hi]at h;simp only[qAb]at h;cases hz:i.zero with
  |none=>rw[hz]at h;cases h
  |some zv=>
   rw[hz]at h;simp at h;subst h;refine⟨zv,fun w=>by simp[zeroValue,typeInfo,hi,hz],by simp,fun w κ pv j hj=>?_⟩;simp at hj;have:(zv.cells.toList.map ofConst).getD j .unk=ofConst (zv.cells.getD j undef):=by simp[hj]
   rw[this];exact uO _
theorem ai5{P:Program}{o:Oper}{s:ASt}{t:TypeId}{k:Nat}{z:List AV}(ho:o.op=.alloc t)(hk:dA (obj? s.heap k)=true)(hz:kU P t=some z):
  tu P o s (s.wr (.obj k (.box z)::aI o.dst (.ptr k 0))):=by
 refine X8 hk (by simp) fun C κ a w hs=>?_;obtain⟨_,hlt⟩:=vT hk;obtain⟨zv,h1,h2,h3⟩:=Vw hz;refine⟨.pointer (some ⟨w.heap.size,0,none⟩),.cells zv.cells t (0,0),by simp[execOp,ho,Instr.alloc,newVar,newRow,h1],⟨_,_,sw,h2,fun j hj=>h3 _ _ _ j hj⟩,.ptr ?_⟩;exact at?_set_same (by rw[hs.klen];exact hlt)
theorem afA{P:Program}{o:Oper}{s:ASt}{t:TypeId}{k:Nat}(ho:o.op=.makeMap t none)(hk:dA (obj? s.heap k)=true):
  tu P o s (s.wr (.obj k (.mp [])::aI o.dst (.mapr k))):=by
 refine X8 hk (by simp) fun C κ a w hs=>?_;obtain⟨_,hlt⟩:=vT hk;refine⟨.map (some w.heap.size),.map #[] 0,by simp[execOp,ho,Instr.makeMap],⟨#[],0,sw,by simp,⟨by simp,MapKept.stamped_empty 0,by simp⟩,fun j hj=>by cases hj⟩,.mapr ?_⟩;exact at?_set_same (by rw[hs.klen];exact hlt)
theorem LU{P:Program}{w:World}{κ:bg}{pv:bB}{b j:Nat}{v:AV}{u y:Value}(hv:Rel w κ pv v u)(hs:isScalar v=true)(hc:w.cell? ⟨b,j,none⟩=some y)(hf:w.frozen? ⟨b,j,none⟩=false):
  (store ⟨b,j,none⟩ u).run P w=.ok () (w.setCell ⟨b,j,none⟩ u):=by
 cases hv<;>simp[isScalar]at hs<;>simp[store,Sem.run,hc,hf]
theorem Sim.stores{P:Program}{C:Ctx}{κ:bg}{a:Act}{l b off:Nat}(hl:at? κ l=some b):∀(vs:List AV) (us:List Value) (i:Nat) (s:ASt) (w:World) (cs:List AV),Sim C κ s a w→obj? s.heap l=.box cs→
  off+i+vs.length≤cs.length→us.length=vs.length→(∀j,j<vs.length→Rel w κ (aO C.aN κ s.heap) (vs.getD j .unk) (us.getD j undef))→vs.all isScalar=true→
  ∃w',(storeCells ⟨b,off,none⟩ us i).run P w=.ok () w'∧Sim C κ (s.setObj l (.box (cs.take (off+i)++vs++cs.drop (off+i+vs.length)))) a w':=by
 intro vs
 induction vs with
 |nil=>
  intro us i s w cs hs ho hle hul _ _;cases us with
  |nil=>
   refine⟨w,by simp[storeCells],?_⟩;have e:s.setObj l (.box (cs.take (off+i)++[]++cs.drop (off+i+([]:List AV).length)))=s:=by
    simp only[qAK,qAE,qAP,qCR];obtain⟨tm,H⟩:=s;simp only[ASt.setObj,ASt.mk.injEq,true_and];have hll:l<H.length:=by have:=lt_of_at? hl;have:=hs.klen;simp only at this;omega
    apply qCD;intro n;by_cases en:l=n
    ·subst en;simp only[qCd hll];simp only[obj?,qAe hll,qAi]at ho;rw[qAe hll,ho]
    ·rw[qBE en]
   rw[e];exact hs
  |cons=>simp at hul
 |cons v vs ih=>
  intro us i s w cs hs ho hle hul hr hsc;cases us with
  |nil=>simp at hul
  |cons u us=>
   simp only[qAv]at hle hul;simp only[qBD,qAd]at hsc;have hv:=hr 0 (by simp);simp only[List.getD,qAp,qAi]at hv;obtain⟨c,el,h1,h2,h3,h4⟩:=hs.box hl ho;have hll:l<s.heap.length:=by rw[←hs.klen];exact lt_of_at? hl
   have hst:=hs.store hl ho (j:=off+i) (by omega) hv;have hrun:(Go.store ⟨b,off+i,none⟩ u).run P w=.ok () (w.setCell ⟨b,off+i,none⟩ u):=LU hv hsc.1 (h3 _ (by omega)) (by simp[World.frozen?,h1]);have hpv:∀x o,aO C.aN κ (s.setObj l (.box (cs.set (off+i) v))).heap x o→aO C.aN κ s.heap x o:=by
    rintro x o (hx|⟨l',g1,g2⟩)
    ·exact .inl hx
    ·by_cases e:l=l'
     ·subst e;exact .inr ⟨l,g1,by rw[ho];trivial⟩
     ·simp only[ASt.setObj]at g2;rw[obj?_set_other e]at g2;exact .inr ⟨l',g1,g2⟩
   obtain⟨w',h5,h6⟩:=ih us (i+1) _ _ (cs.set (off+i) v) hst (by simp only[ASt.setObj];exact obj?_set_same hll) (by simp;omega) (by omega)
    (fun j hj=>by
     have:=hr (j+1) (by simpa using hj);simp only[List.getD,qBl]at this;exact this.mono (Evo.setCell (.inr ⟨l,hl,by rw[ho];trivial⟩)) (bV.refl _) (fun x o hx _=>hpv x o hx)) hsc.2
   refine⟨w',by simp[storeCells,yN,hrun,h5],?_⟩;have e:(s.setObj l (.box (cs.set (off+i) v))).setObj l (.box ((cs.set (off+i) v).take (off+(i+1))++vs++(cs.set (off+i) v).drop (off+(i+1)+vs.length)))=
     s.setObj l (.box (cs.take (off+i)++(v::vs)++cs.drop (off+i+(v::vs).length))):=by
    simp only[ASt.setObj,qDb];congr 2;congr 1;rw[show off+(i+1)=(off+i)+1 from by omega,List.drop_set,if_pos (by omega)];have e1:(cs.set (off+i) v).take (off+i+1)=cs.take (off+i)++[v]:=by
     rw[qBG (by simp;omega),qCZ,qBZ (by simp;omega)];simp
    rw[e1];simp only[qAN,qCj,qAv];congr 3;omega
   rw[e]at h6;exact h6
theorem ajQ{P:Program}{o:Oper}{s:ASt}{t:TypeId}{x y:Operand}{l off:Nat}{cs vs:List AV}(ho:o.op=.store t x y)(hx:bC s.tmps x=.ptr l off)(hy:eD (bC s.tmps y)=some vs)(hl:obj? s.heap l=.box cs)
  (ht:sizeT P t=some vs.length) (hle:off+vs.length≤cs.length) (hsc:vs.all isScalar=true):
  tu P o s (s.wr (.obj l (.box (cs.take off++vs++cs.drop (off+vs.length)))::aI o.dst (.tup []))):=
 MB fun C κ a w hs=>by
  have hr:=hs.ev x;rw[hx]at hr;obtain⟨b,e,hb⟩:=hr.tN;obtain⟨h1,h2⟩:=Fg (hs.ev y) hy;obtain⟨w',h3,h4⟩:=Sim.stores (P:=P) (off:=off) hb vs (a.eval y).cells.toList 0 s w cs hs hl (by omega) (by simpa using h1)
   (fun j hj=>by have:=h2 j hj;simpa[qAh,List.getD]using this) hsc
  refine⟨κ,w',?_,?_⟩
  ·simp[execOp,ho,Instr.storeAt,e,Instr.sureAddr,storeVar,nG ht,h1,h3]
  ·simp only[qAP]at h4;exact h4.aI o.dst jr
theorem Sim.kill{C:Ctx}{κ:bg}{s:ASt}{a:Act}{w:World}(h:Sim C κ s a w)(l:Nat):Sim C κ (s.setObj l .dead) a w:=by
 have hob:∀l',live (obj? (s.heap.set l .dead) l')→l≠l'∧obj? (s.heap.set l .dead) l'=obj? s.heap l':=fun l' hl'=>by
  by_cases e:l=l'
  ·subst e;by_cases hlt:l<s.heap.length
   ·rw[obj?_set_same hlt]at hl';exact hl'.elim
   ·rw[obj?,qAn (by simp;omega)]at hl';exact hl'.elim
  ·exact⟨e,obj?_set_other e⟩
 refine h.step (H':=s.heap.set l .dead) (Evo.refl _ _) (bV.refl _) (by simp[h.klen]) ?_ (fun l' b h1 h2=>.inl ⟨h1,(hob l' h2).2,rfl⟩)
  (fun l1 l2 b h1 h2 h3 h4=>h.apart l1 l2 b h1 h2 (by rw[←(hob l1 h3).2];exact h3) (by rw[←(hob l2 h4).2];exact h4)) h.bound ?_ (fun _ _=>rfl) rfl rfl rfl
 ·rintro b o (hb|⟨l',h1,h2⟩) _
  ·exact .inl hb
  ·have hl':live (obj? (s.heap.set l .dead) l'):=by revert h2;cases obj? (s.heap.set l .dead) l'<;>simp[qW,live]
   rw[(hob l' hl').2]at h2;exact .inr ⟨l',h1,h2⟩
 ·intro l' hl';by_cases e:l=l'
  ·subst e;by_cases hlt:l<s.heap.length
   ·rw[obj?_set_same hlt]at hl';cases hl'
   ·rw[obj?,qAn (by simp;omega)]at hl';cases hl'
  ·rw[obj?_set_other e]at hl';exact h.resv l' hl'
section
variable {P:Program}{w:World}{κ:bg}{pv:bB}
theorem o8{es:List (List AV)}{tag:Tag}{u:Value}{sz:Nat}(h:Rel w κ pv (.slice es tag) u)(hsz:∀i,i<es.length→(es.getD i []).length=sz):
  ∃arr,(Builtin.firstCells sz es.length u).run P w=.ok arr w∧arr.size=es.length*sz∧∀i j,i<es.length→j<sz→Rel w κ pv ((es.getD i []).getD j .unk) (arr.getD (i*sz+j) undef):=by
 cases h with
 |@slice _ _ a cap b off sz' f h1 h2 h3 h3' h4 h5 h6 ht=>
  by_cases hnil:es=[]
  ·subst hnil;cases a<;>simp[Builtin.firstCells,loadCells,loadCellsFrom]
  ·have ha:=h2 hnil;subst ha;have hpos:0<es.length:=qBL.2 hnil;have esz:sz'=sz:=by rw[←h1 0 hpos];exact hsz 0 hpos
   subst esz;have hrun:=run_loadCellsFrom (P:=P) (w:=w) (b:=b) (off:=off) (fun m=>f (m/sz') (m%sz')) (es.length*sz') 0 #[] (fun m hm=>by
    have hz:0<sz':=qBN (fun e=>by subst e;simp at hm);have hi:m/sz'<es.length:=(qCk hz).2 hm;have hj:m%sz'<sz':=qCH _ hz;have:=h5 (m/sz') (m%sz') hi hj;rw[qBA,qCp]at this;simpa using this)
   refine⟨((List.range (es.length*sz')).map fun m=>f (m/sz') (m%sz')).toArray,?_,by simp,fun i j hi hj=>?_⟩
   ·simpa[Builtin.firstCells,loadCells]using hrun
   ·have hlt:i*sz'+j<es.length*sz':=by
     have:(i+1)*sz'≤es.length*sz':=qAH _ hi
     grind
    have e1:(i*sz'+j)/sz'=i:=by rw[qBA,Nat.mul_add_div (by omega),Nat.div_eq_of_lt hj];omega
    have e2:(i*sz'+j)%sz'=j:=by rw[qBA,qCN,qBU hj]
    simp_all
theorem mX{t e sz by_:Nat}(h:kT P t=some (e,sz,by_)):P.underlying t=some (.slice e)∧∃i z,P.info? e=some i∧i.size=sz∧i.bytes=by_∧i.zero=some z∧z.cells.size=sz:=by
 unfold kT at h;split at h
 ·rename_i e' hu;cases hi:P.info? e' with
  |none=>rw[hi]at h;cases h
  |some i=>
   rw[hi]at h;simp only[qAb]at h;split at h
   ·simp_all
   ·cases h
 ·cases h
theorem nextslicecap_le(need cap:Nat)(h:cap<need):Builtin.nextslicecap need cap≤2*need:=by
 have hg:∀r c,c≤2*need→256≤c→Builtin.growBy need r c≤2*need:=by
  intro r
  induction r with
  |zero=>intro c hc _;simpa[Builtin.growBy]using hc
  |succ r ih=>
   simp only[Builtin.growBy]
   grind
 unfold Builtin.nextslicecap
 grind
theorem qE{t:Nat}(h:aV.isSliceT P t=true):∃e,P.underlying t=some (.slice e):=by
 unfold aV.isSliceT at h;split at h<;>first|exact⟨_,by assumption⟩|cases h
theorem run_append_grow{t t2 e sz by_ ty:Nat}{a:Option Addr}{len cap n:Nat}{u2:Value}{old new:Array Value}{z:Value}(he:kT P t=some (e,sz,by_))(h2:aV.isSliceT P t2=true)
  (hn:Builtin.lenOf u2=pure n) (hgrow:cap<len+n) (hb:(len+n)*by_≤140737488355328) (hlim:len+n≤140737488355328) (hz:(zeroValue e).run P w.drew=.ok z w.drew)
  (hold:(Builtin.firstCells sz len (.slice a len cap)).run P w.drew=.ok old w.drew)
  (hnew:(Builtin.firstCells sz n u2).run P w.drew=.ok new w.drew):
  ∃nc,len+n≤nc∧(Builtin.append_ #[t,t2] ty #[.slice a len cap,u2]).run P w=
   .ok (.slice (some ⟨w.heap.size,0,none⟩) (len+n) nc) {w.drew with heap:=w.heap.push (.cells (old++new++Builtin.zeroCells z.cells (nc - (len+n))) e (0,0))}:=by
 obtain⟨hu,i,z',hi,rfl,rfl,hz',hzs⟩:=mX he;obtain⟨e2,hu2⟩:=qE h2;have hcap:Builtin.nextslicecap (len+n) cap*i.bytes≤281474976710656:=by
  have:=qAH i.bytes (nextslicecap_le (len+n) cap hgrow);have e:2*(len+n)*i.bytes=2*((len+n)*i.bytes):=by rw[Nat.mul_assoc]
  omega
 refine⟨(len+n)+(w.tape w.drawn (.appendCap (len+n) cap e))%(2^63 - (len+n)),by omega,?_⟩;have hsize:∀w:World,(sizeOf e).run P w=.ok i.size w:=fun w=>by simp[sizeOf,typeInfo,hi]
 have hinfo:∀w:World,(typeInfo e).run P w=.ok i w:=fun w=>by simp[typeInfo,hi]
 have c1:¬((len+n:Nat):Int)>IntKind.i64.max:=by simp[IntKind.max,IntKind.signed,IntKind.bits];omega
 simp only[Builtin.append_];simp[run_underlying hu,run_underlying hu2,hsize,hinfo,hn,hgrow,Question.forced,Question.cut];rw[if_neg (by omega)];rw[if_neg (by intro hh;exact c1 hh.1)];rw[if_neg (by omega)];simp[hold,hnew,hz,newRow];rfl
end
end
section
open Go
theorem iD{sz:Nat}{es:List (List AV)}(h:es.all (bX sz)=true)(i:Nat)(hi:i<es.length):(es.getD i []).length=sz∧(es.getD i []).all isScalar=true:=by
 have:=qAC.1 h es[i] (qBp hi);simp only[bX]at this
 grind
theorem sG{i j n sz:Nat}(hi:i<n)(hj:j<sz):i*sz+j<n*sz:=by
 have:(i+1)*sz≤n*sz:=qAH _ hi
 grind
theorem aec{C:Ctx}{κ:bg}{s:ASt}{a:Act}{w:World}(hs:Sim C κ s a w){k:Nat}(hres:obj? s.heap k=.res)(hlt:k<s.heap.length){es:List (List AV)}{c:Array Value}{e:TypeId}{cap sz:Nat}
  (hlen:∀i,i<es.length→(es.getD i []).length=sz) (hcap:es.length≤cap) (hbd:es.length≤140737488355328) (hc:cap*sz≤c.size)
  (hr:∀i j,i<es.length→j<sz→Rel w κ (aO C.aN κ s.heap) ((es.getD i []).getD j .unk) (c.getD (i*sz+j) undef)):
  Rel {w with heap:=w.heap.push (.cells c e (0,0))} (κ.set k (some w.heap.size)) (aO C.aN (κ.set k (some w.heap.size)) (s.heap.set k (.tip (es.length*sz)))) (.slice es (.tip k sz)) (.slice (some ⟨w.heap.size,0,none⟩) es.length cap):=by
 have hlk:k<κ.length:=by rw[hs.klen];exact hlt
 refine .slice w.heap.size 0 sz (fun i j=>c.getD (i*sz+j) undef) hlen (fun _=>rfl) hcap (by omega) ?_ ?_ ?_ ⟨rfl,.inr ⟨w.heap.size,c,e,at?_set_same hlk,rfl,sw,hc⟩⟩
 ·rintro i j hi hj (hb|⟨l,h1,h2⟩)
  ·have:=hs.oldlt _ (hs.pvold _ _ hb);have:=hs.size;omega
  ·by_cases hl:k=l
   ·subst hl;rw[obj?_set_same hlt]at h2;simp only[qW]at h2;have:=sG hi hj;omega
   ·rw[at?_set_other hl]at h1;have:=hs.bound _ _ h1;omega
 ·intro i j hi hj;have h1:=sG hi hj;have h2:i*sz+j<c.size:=qAq h1 (qAj (qAH _ hcap) hc)
  simp_all
 ·intro i j hi hj;exact Y4 hs hres hlt _ (hr i j hi hj)
theorem Pf{P:Program}{C:Ctx}{κ:bg}{s:ASt}{a:Act}{w:World}(hs:Sim C κ s a w){k:Nat}(hk:dA (obj? s.heap k)=true){es:List (List AV)}{c:Array Value}{e:TypeId}{cap sz:Nat}
  (hlen:∀i,i<es.length→(es.getD i []).length=sz) (hcap:es.length≤cap) (hbd:es.length≤140737488355328) (hc:cap*sz≤c.size)
  (hr:∀i j,i<es.length→j<sz→Rel w κ (aO C.aN κ s.heap) ((es.getD i []).getD j .unk) (c.getD (i*sz+j) undef)) (d:Option Tmp):
  ∃κ',Sim C κ' (s.wr (.obj k (.tip (es.length*sz))::aI d (.slice es (.tip k sz)))) (a.put d (.slice (some ⟨w.heap.size,0,none⟩) es.length cap)) {w with heap:=w.heap.push (.cells c e (0,0))}:=by
 obtain⟨hres,hlt⟩:=vT hk;have hsim:=hs.new (hs.resv k hres) hlt (.cells c e (0,0)) (.tip (es.length*sz)) (by simp) ⟨c,e,sw,qAj (qAH _ hcap) hc⟩;exact⟨_,hsim.aI d (aec hs hres hlt hlen hcap hbd hc hr)⟩
theorem size_zeroCells(z:Array Value)(n:Nat):(Builtin.zeroCells z n).size=n*z.size:=by simp[Builtin.zeroCells]
theorem Tz{P:Program}{C:Ctx}{κ:bg}{s:ASt}{a:Act}{w:World}(hs:Sim C κ s a w){k:Nat}(hk:dA (obj? s.heap k)=true){t t2 e sz by_ ty:Nat}{es ys:List (List AV)}{tag tag2:Tag}{u u2:Value}
  (hu:Rel w κ (aO C.aN κ s.heap) (.slice es tag) u) (hu2:Rel w κ (aO C.aN κ s.heap) (.slice ys tag2) u2) (he:kT P t=some (e,sz,by_)) (h2:aV.isSliceT P t2=true)
  (hb:(es.length+ys.length)*by_≤140737488355328) (hlim:es.length+ys.length≤140737488355328) (h1:es.all (bX sz)=true) (h3:ys.all (bX sz)=true)
  (hroom:∀ad n cap,u=.slice ad n cap→cap<es.length+ys.length) (d:Option Tmp):
  ∃v κ' w',(Builtin.append_ #[t,t2] ty #[u,u2]).run P w=.ok v w'∧Sim C κ' (s.wr (.obj k (.tip ((es++ys).length*sz))::aI d (.slice (es++ys) (.tip k sz)))) (a.put d v) w':=by
 obtain⟨ad,cap,rfl,hcap,_⟩:=hu.jL;obtain⟨ad2,cap2,e2,_,_⟩:=hu2.jL;have hsd:Sim C κ s a w.drew:=hs.sameHeap rfl rfl rfl rfl;have hev:Evo (aO C.aN κ s.heap) w w.drew:=Evo.of_heap rfl;have hu':=hu.mono hev (bV.refl _) (fun _ _ h _=>h);have hu2':=hu2.mono hev (bV.refl _) (fun _ _ h _=>h);obtain⟨old,o1,o2,o3⟩:=o8 (P:=P) hu' (fun i hi=>(iD h1 i hi).1);obtain⟨new,n1,n2,n3⟩:=o8 (P:=P) hu2' (fun i hi=>(iD h3 i hi).1);obtain⟨_,i,z,hi,hsz,hby,hz,hzs⟩:=mX he;have hgr:=hroom ad es.length cap rfl;obtain⟨nc,hnc,hrun⟩:=run_append_grow (P:=P) (w:=w) (ty:=ty) (a:=ad) (len:=es.length) (cap:=cap) (n:=ys.length) (u2:=u2) (old:=old) (new:=new) (z:=z) he h2 (by subst e2;rfl) hgr hb hlim
  (by simp[zeroValue,typeInfo,hi,hz]) o1 n1
 have hlen:(es++ys).length=es.length+ys.length:=by simp
 have hsize:(old++new++Builtin.zeroCells z.cells (nc - (es.length+ys.length))).size=nc*sz:=by
  simp only[qCb,o2,n2,size_zeroCells,hzs];rw[←qAD,←qAD]
  grind
 obtain⟨κ',hsim⟩:=Pf (P:=P) hsd hk (es:=es++ys) (c:=old++new++Builtin.zeroCells z.cells (nc - (es.length+ys.length))) (e:=e) (cap:=nc) (sz:=sz)
  (fun i hi=>by
   rw[hlen]at hi;by_cases hlt:i<es.length
   ·have:(es++ys).getD i []=es.getD i []:=by simp[List.getD,qAf hlt]
    rw[this];exact(iD h1 i hlt).1
   ·have:(es++ys).getD i []=ys.getD (i - es.length) []:=by simp[List.getD,qAm (qAu hlt)]
    rw[this];exact(iD h3 _ (by omega)).1)
  (by omega) (by omega) (qCa hsize.symm)
  (fun i j hi hj=>by
   rw[hlen]at hi;by_cases hlt:i<es.length
   ·have e1:(es++ys).getD i []=es.getD i []:=by simp[List.getD,qAf hlt]
    have e2:(old++new++Builtin.zeroCells z.cells (nc - (es.length+ys.length))).getD (i*sz+j) undef=old.getD (i*sz+j) undef:=by
     have:=sG hlt hj;simp only[qAh];rw[Array.append_assoc,qAS (by omega)]
    rw[e1,e2];exact o3 i j hlt hj
   ·have e1:(es++ys).getD i []=ys.getD (i - es.length) []:=by simp[List.getD,qAm (qAu hlt)]
    have hi':i - es.length<ys.length:=by omega
    have e2:(old++new++Builtin.zeroCells z.cells (nc - (es.length+ys.length))).getD (i*sz+j) undef=new.getD ((i - es.length)*sz+j) undef:=by
     have h4:=sG hi' hj;have h5:i*sz=es.length*sz+(i - es.length)*sz:=by rw[←qAD];congr 1;omega
     simp only[qAh];rw[qAS (by rw[qCb];omega),qBg (by omega)];congr 2;omega
    rw[e1,e2];exact n3 _ j hi' hj) d
 refine⟨_,κ',_,hrun,?_⟩;rw[hlen]at hsim⊢;exact hsim
theorem Y0{P:Program}{o:Oper}{s:ASt}{args:Array Operand}{argTypes:Array TypeId}{x y:Operand}{t t2 k e sz by_:Nat}{ys:List (List AV)}{tag:Tag}(ho:o.op=.call {callee:=.builtin .append,args,argTypes})
  (ha:args.toList=[x,y]) (ht:argTypes.toList=[t,t2]) (he:kT P t=some (e,sz,by_)) (h2:aV.isSliceT P t2=true) (hx:bC s.tmps x=.slice [] .nils) (hy:bC s.tmps y=.slice ys tag)
  (hk:dA (obj? s.heap k)=true) (hb:ys.length*by_≤140737488355328) (hlim:ys.length≤140737488355328) (h3:ys.all (bX sz)=true):
  tu P o s (s.wr (.obj k (.tip (ys.length*sz))::aI o.dst (.slice ys (.tip k sz)))):=
 mF fun C κ a w hs=>by
  have ea:args=#[x,y]:=by rw[←qAG (xs:=args),ha]
  have et:argTypes=#[t,t2]:=by rw[←qAG (xs:=argTypes),ht]
  subst ea et;have hrx:=hs.ev x;rw[hx]at hrx;have hry:=hs.ev y;rw[hy]at hry;have hexec:∀(v:Value) (w':World),(Builtin.append_ #[t,t2] o.type #[a.eval x,a.eval y]).run P w=.ok v w'→(execOp a.eval o).run P w=.ok (.value v) w':=fun v w' h=>by
   simp[execOp,ho,resolve,invoke,builtin,h]
  have hnil:a.eval x=.slice none 0 0:=by
   generalize a.eval x=u at hrx;cases hrx with
   |slice b off sz' f _ _ _ _ _ _ _ ht'=>obtain⟨rfl,rfl⟩:=ht';rfl
  by_cases hys:ys=[]
  ·subst hys;obtain⟨ad2,cap2,e2,_,_⟩:=hry.jL;obtain⟨hu,i,z,hi,rfl,rfl,hz,hzs⟩:=mX he;obtain⟨el2,hu2⟩:=qE h2;obtain⟨hres,hlt⟩:=vT hk;refine⟨.slice none 0 0,κ,w,hexec _ _ ?_,?_⟩
   ·rw[hnil,e2];have hfc:(Builtin.firstCells i.size 0 (.slice ad2 0 cap2)).run P w=.ok #[] w:=by cases ad2<;>simp[Builtin.firstCells,loadCells,loadCellsFrom]
    have hsize:∀w:World,(sizeOf e).run P w=.ok i.size w:=fun w=>by simp[sizeOf,typeInfo,hi]
    simp only[qAE]at *;simp[Builtin.append_,run_underlying hu,run_underlying hu2,hsize,Builtin.lenOf,hfc]
   ·have hsim:Sim C κ (s.setObj k (.tip (([]:List (List AV)).length*i.size))) a w:=by
     simp only[qAE,qDc];have hnone:=hs.resv k hres;have hne:∀l b,at? κ l=some b→k≠l:=fun l b hb e=>by subst e;rw[hnone]at hb;cases hb
     refine hs.step (H':=s.heap.set k (.tip 0)) (Evo.refl _ _) (bV.refl _) (by simp[hs.klen]) ?_ (fun l b h1 h2=>.inl ⟨h1,obj?_set_other (hne l b h1),rfl⟩)
      (fun l1 l2 b g1 g2 g3 g4=>hs.apart l1 l2 b g1 g2 (by rwa[obj?_set_other (hne l1 b g1)]at g3) (by rwa[obj?_set_other (hne l2 b g2)]at g4)) hs.bound ?_ (fun _ _=>rfl) rfl rfl rfl
     ·rintro b o (hb|⟨l,g1,g2⟩) _
      ·exact .inl hb
      ·rw[obj?_set_other (hne l b g1)]at g2;exact .inr ⟨l,g1,g2⟩
     ·intro l hl;by_cases e:k=l
      ·subst e;exact hnone
      ·rw[obj?_set_other e]at hl;exact hs.resv l hl
    refine hsim.aI o.dst ?_;exact .slice (es:=[]) 0 0 i.size (fun _ _=>undef) (fun i h=>by cases h) (fun h=>(h rfl).elim) (qAV _) (by simp) (fun i j h=>by cases h) (fun i j h=>by cases h) (fun i j h=>by cases h) ⟨rfl,.inl ⟨rfl,rfl⟩⟩
  ·obtain⟨v,κ',w',h4,h5⟩:=Tz (P:=P) (ty:=o.type) hs hk hrx hry he h2 (by simpa using hb) (by simpa using hlim) (by simp) h3 (fun ad n cap hu=>by
    rw[hnil]at hu;cases hu;have:=qBL.2 hys;simp;omega) o.dst
   exact⟨v,κ',w',hexec _ _ h4,by simpa using h5⟩
theorem UL{P:Program}{o:Oper}{s:ASt}{args:Array Operand}{argTypes:Array TypeId}{x y:Operand}{t t2 k e sz by_ n:Nat}{es ys:List (List AV)}{tag:Tag}(ho:o.op=.call {callee:=.builtin .append,args,argTypes})
  (ha:args.toList=[x,y]) (ht:argTypes.toList=[t,t2]) (he:kT P t=some (e,sz,by_)) (h2:aV.isSliceT P t2=true) (hx:bC s.tmps x=.slice es (.full n)) (hn:n≤es.length) (hy:bC s.tmps y=.slice ys tag)
  (hk:dA (obj? s.heap k)=true) (hys:ys≠[]) (hb:(es.length+ys.length)*by_≤140737488355328) (hlim:es.length+ys.length≤140737488355328) (h1:es.all (bX sz)=true) (h3:ys.all (bX sz)=true):
  tu P o s (s.wr (.obj k (.tip ((es++ys).length*sz))::aI o.dst (.slice (es++ys) (.tip k sz)))):=
 mF fun C κ a w hs=>by
  have ea:args=#[x,y]:=by rw[←qAG (xs:=args),ha]
  have et:argTypes=#[t,t2]:=by rw[←qAG (xs:=argTypes),ht]
  subst ea et;have hrx:=hs.ev x;rw[hx]at hrx;have hry:=hs.ev y;rw[hy]at hry;have hexec:∀(v:Value) (w':World),(Builtin.append_ #[t,t2] o.type #[a.eval x,a.eval y]).run P w=.ok v w'→(execOp a.eval o).run P w=.ok (.value v) w':=fun v w' h=>by
   simp[execOp,ho,resolve,invoke,builtin,h]
  obtain⟨v,κ',w',h4,h5⟩:=Tz (P:=P) (ty:=o.type) hs hk hrx hry he h2 hb hlim h1 h3 (fun ad m cap hu=>by
   rw[hu]at hrx;cases hrx with
   |slice b off sz' f _ _ _ _ _ _ _ ht'=>
    have ht':cap≤n:=ht';have:=qBL.2 hys;omega) o.dst
  exact⟨v,κ',w',hexec _ _ h4,h5⟩
theorem Vm{P:Program}{o:Oper}{s:ASt}{args:Array Operand}{argTypes:Array TypeId}{x y:Operand}{t t2 e sz by_:Nat}{es:List (List AV)}{tag tag2:Tag}(ho:o.op=.call {callee:=.builtin .append,args,argTypes})
  (ha:args.toList=[x,y]) (ht:argTypes.toList=[t,t2]) (he:kT P t=some (e,sz,by_)) (h2:aV.isSliceT P t2=true) (hx:bC s.tmps x=.slice es tag) (hy:bC s.tmps y=.slice [] tag2):
  tu P o s (s.wr (aI o.dst (.slice es tag))):=
 mF fun C κ a w hs=>by
  have ea:args=#[x,y]:=by rw[←qAG (xs:=args),ha]
  have et:argTypes=#[t,t2]:=by rw[←qAG (xs:=argTypes),ht]
  subst ea et;have hrx:=hs.ev x;rw[hx]at hrx;have hry:=hs.ev y;rw[hy]at hry;have hexec:∀(v:Value) (w':World),(Builtin.append_ #[t,t2] o.type #[a.eval x,a.eval y]).run P w=.ok v w'→(execOp a.eval o).run P w=.ok (.value v) w':=fun v w' h=>by
   simp[execOp,ho,resolve,invoke,builtin,h]
  obtain⟨ad2,cap2,e2,_,_⟩:=hry.jL;obtain⟨ad,cap,e1,hcap,_⟩:=hrx.jL;obtain⟨hu,i,z,hi,rfl,rfl,hz,hzs⟩:=mX he;obtain⟨el2,hu2⟩:=qE h2;refine⟨.slice ad es.length cap,κ,w,hexec _ _ ?_,hs.aI o.dst (by rw[←e1];exact hrx)⟩;rw[e1,e2];have hfc:(Builtin.firstCells i.size 0 (.slice ad2 0 cap2)).run P w=.ok #[] w:=by cases ad2<;>simp[Builtin.firstCells,loadCells,loadCellsFrom]
  have hsize:∀w:World,(sizeOf e).run P w=.ok i.size w:=fun w=>by simp[sizeOf,typeInfo,hi]
  have hge:¬cap<es.length:=by omega
  simp only[qAE]at *;cases ad with
  |none=>simp[Builtin.append_,run_underlying hu,run_underlying hu2,hsize,Builtin.lenOf,hfc,hcap,storeCells]
  |some b=>simp[Builtin.append_,run_underlying hu,run_underlying hu2,hsize,Builtin.lenOf,hfc,hcap,storeCells]
theorem aek{P:Program}{o:Oper}{s s' s'':ASt}(h:tu P o s s')(hw:∀C κ a w,Sim C κ s' a w→Sim C κ s'' a w):tu P o s s'':=
 fun C κ a w hs next Q hn=>h C κ a w hs next Q fun κ' a' w' h'=>hn κ' a' w' (hw _ _ _ _ h')
theorem Sim.asB{C:Ctx}{κ:bg}{s:ASt}{a:Act}{w:World}(h:Sim C κ s a w){d:Nat}{v:AV}(hv:d<s.tmps.length→∀u,Rel w κ (aO C.aN κ s.heap) (s.tmps.getD d .unk) u→Rel w κ (aO C.aN κ s.heap) v u):Sim C κ (s.setSlot d v) a w:=by
 refine{h with len:=?_,slot:=?_}
 ·simp[ASt.setSlot,h.len]
 ·intro n hn;simp only[ASt.setSlot,qBc]at hn⊢;by_cases hd:d=n
  ·subst hd;rw[iw hn];exact hv hn _ (h.slot d hn)
  ·rw[j5 hd];exact h.slot n hn
theorem Rel.arY{w:World}{κ:bg}{pv:bB}{es:List (List AV)}{tag:Tag}{u:Value}(h:Rel w κ pv (.slice es tag) u):Rel w κ pv (.slice es .shared) u:=by
 cases h with
 |slice b off sz f h1 h2 h3 h3' h4 h5 h6 _=>exact .slice b off sz f h1 h2 h3 h3' h4 h5 h6 trivial
theorem agj{C:Ctx}{κ:bg}{s:ASt}{a:Act}{w:World}{k:Nat}{l:List Wr}{d:Option Tmp}{es:List (List AV)}{tag:Tag}(hl:l=[]∨∃ao,l=[.obj k ao])(h:Sim C κ (s.wr (l++aI d (.slice es tag))) a w):Sim C κ (s.wr (.obj k .dead::aI d (.slice es .shared))) a w:=by
 have h:=h.kill k;cases d with
 |none=>
  have e:(s.wr (l++aI none (.slice es tag))).setObj k .dead=s.wr (.obj k .dead::aI none (.slice es .shared)):=by
   rcases hl with rfl|⟨ao,rfl⟩<;>simp[ASt.wr,aI,ASt.Gi,ASt.setObj]
  rwa[e]at h
 |some d=>
  have g:=h.asB (d:=d) (v:=.slice es .shared) (by
   intro hd u hu;have e:((s.wr (l++aI (some d) (.slice es tag))).setObj k .dead).tmps=s.tmps.set d (.slice es tag):=by
    rcases hl with rfl|⟨ao,rfl⟩<;>simp[ASt.wr,aI,ASt.Gi,ASt.setObj,ASt.setSlot]
   rw[e,qBc]at hd;rw[e,iw hd]at hu;exact hu.arY)
  have e:((s.wr (l++aI (some d) (.slice es tag))).setObj k .dead).setSlot d (.slice es .shared)=s.wr (.obj k .dead::aI (some d) (.slice es .shared)):=by
   rcases hl with rfl|⟨ao,rfl⟩<;>simp[ASt.wr,aI,ASt.Gi,ASt.setObj,ASt.setSlot]
  rwa[e]at g
theorem Yd{P:Program}{o:Oper}{s:ASt}{args:Array Operand}{argTypes:Array TypeId}{x y:Operand}{t t2 k e sz by_ n:Nat}{es ys:List (List AV)}{tag:Tag}(ho:o.op=.call {callee:=.builtin .append,args,argTypes})
  (ha:args.toList=[x,y]) (ht:argTypes.toList=[t,t2]) (he:kT P t=some (e,sz,by_)) (h2:aV.isSliceT P t2=true) (hx:bC s.tmps x=.slice es (.full n)) (hn:n≤es.length) (hy:bC s.tmps y=.slice ys tag)
  (hk:dA (obj? s.heap k)=true) (hb:(es.length+ys.length)*by_≤140737488355328) (hlim:es.length+ys.length≤140737488355328) (h1:es.all (bX sz)=true) (h3:ys.all (bX sz)=true):
  tu P o s (s.wr (.obj k .dead::aI o.dst (.slice (es++ys) .shared))):=by
 by_cases hys:ys=[]
 ·subst hys;rw[qAK];exact aek (Vm ho ha ht he h2 hx hy) fun C κ a w h=>agj (l:=[]) (.inl rfl) h
 ·exact aek (UL ho ha ht he h2 hx hn hy hk hys hb hlim h1 h3) fun C κ a w h=>agj (l:=[_]) (.inr ⟨_,rfl⟩) h
theorem ajj{P:Program}{o:Oper}{s:ASt}{b:BinOp}{t t2:TypeId}{x y:Operand}{v:Bool}(ho:o.op=.binOp b t x y t2)(h:eqNil P b t (bC s.tmps x) y=some v):tu P o s (s.wr (aI o.dst (.bool v))):=
 mF fun C κ a w hs=>by
  have hrx:=hs.ev x;have key:∀(es:List (List AV)) (tag:Tag) (e:TypeId) (v:Bool),P.underlying t=some (.slice e)→bC s.tmps x=.slice es tag→(∀ad cap,Rel w κ (aO C.aN κ s.heap) (.slice es tag) (.slice ad es.length cap)→ad.isNone=v)→
    b=.eql→y=.const (.slice none 0 0)→∃v1 κ' w',(execOp a.eval o).run P w=.ok (.value v1) w'∧Sim C κ' (s.wr (aI o.dst (.bool v))) (a.put o.dst v1) w':=by
   rintro es tag e v hT hx hv rfl rfl;rw[hx]at hrx;obtain⟨ad,cap,ev,_,_⟩:=hrx.jL;rw[ev]at hrx;have hn:=hv ad cap hrx;refine⟨.bool ad.isNone,κ,w,?_,by rw[hn];exact hs.aI o.dst (.bool _)⟩;have hc:a.eval (.const (.slice none 0 0))=.slice none 0 0:=rfl;have heq:(Op.equal t (.slice ad es.length cap) (.slice none 0 0)).run P w=.ok ad.isNone w:=by
    have hh:∀dd,(Op.equalIn (dd+1) t (.slice ad es.length cap) (.slice none 0 0)).run P w=.ok ad.isNone w:=fun dd=>by cases ad<;>simp[Op.equalIn,run_underlying hT]
    exact hh 9999
   simp[execOp,ho,ev,hc,binOp,eqGuard,heq]
  unfold eqNil at h;split at h
  ·rename_i e c cs tag hT hx;cases h;refine key _ _ e false hT hx (fun ad cap hr=>?_) rfl rfl;cases hr with
   |slice b' off sz u q1 q2 q3 q3' q4 q5 q6 q7=>rw[q2 (by simp)];rfl
  ·rename_i e hT hx;cases h;refine key _ _ e true hT hx (fun ad cap hr=>?_) rfl rfl;cases hr with
   |slice b' off sz u q1 q2 q3 q3' q4 q5 q6 q7=>rw[q7.1];rfl
  ·cases h
end
section
open Go
def Yo:Value→Bool
 | .agg _=>false
 | .tuple _=>false
 |_=>true
theorem adH{w:World}{κ:bg}{pv:bB}{v:AV}{u:Value}(h:Rel w κ pv v u)(hs:isScalar v=true):Yo u=true:=by
 cases h<;>simp[isScalar]at hs<;>rfl
theorem ail{P:Program}{w:World}{b j:Nat}{u y:Value}(hs:Yo u=true)(hc:w.cell? ⟨b,j,none⟩=some y)(hf:w.frozen? ⟨b,j,none⟩=false):
  (Go.store ⟨b,j,none⟩ u).run P w=.ok () (w.setCell ⟨b,j,none⟩ u):=by
 cases u<;>simp[Yo]at hs<;>simp[Go.store,Sem.run,hc,hf]
theorem KG{P:Program}{b off:Nat}{e:TypeId}:∀(us:List Value) (i:Nat) (w:World) (c:Array Value),w.heap[b]? =some (Obj.cells c e (0,0))→off+i+us.length≤c.size→us.all Yo=true→
  ∃w' c',(storeCells ⟨b,off,none⟩ us i).run P w=.ok () w'∧w'.heap[b]? =some (Obj.cells c' e (0,0))∧c'.size=c.size∧
   (∀m,c'.getD m undef=if off+i≤m∧m<off+i+us.length then us.getD (m - (off+i)) undef else c.getD m undef)∧
   (∀x:Nat,x≠b→w'.heap[x]? =w.heap[x]?)∧w'.heap.size=w.heap.size∧w'.os=w.os∧w'.tape=w.tape∧w'.output=w.output:=by
 intro us
 induction us with
 |nil=>
  intro i w c hb _ _;refine⟨w,c,by simp[storeCells],hb,rfl,fun m=>?_,fun _ _=>rfl,rfl,rfl,rfl,rfl⟩
  grind
 |cons u us ih=>
  intro i w c hb hle hsc;simp only[qAv]at hle;simp only[qBD,qAd]at hsc;have hlt:off+i<c.size:=by omega
  have hrun:(Go.store ⟨b,off+i,none⟩ u).run P w=.ok () (w.setCell ⟨b,off+i,none⟩ u):=ail hsc.1 (y:=c[off+i]) (by simp[World.cell?,hb,hlt]) (by simp[World.frozen?,hb]);obtain⟨w',c',h1,h2,h3,h4,h5,h6,h7,h8,h9⟩:=ih (i+1) _ (c.setIfInBounds (off+i) u) (yE (j:=off+i) (u:=u) hb) (by simp;omega) hsc.2;refine⟨w',c',by simp[storeCells,yN,hrun,h1],h2,by simpa using h3,fun m=>?_,fun x hx=>by rw[h5 x hx,qA hx],by simpa using h6,h7,h8,h9⟩;rw[h4 m];by_cases e1:off+(i+1)≤m∧m<off+(i+1)+us.length
  ·rw[if_pos e1,if_pos (by simp;omega)];rw[show m - (off+i)=(m - (off+(i+1)))+1 from by omega];simp[List.getD]
  ·rw[if_neg e1];by_cases e2:m=off+i
   ·subst e2;rw[lY hlt,if_pos (by simp)];simp[List.getD]
   ·rw[jK (by omega),if_neg (by simp;omega)]
theorem aeS{P:Program}{C:Ctx}{κ:bg}{s:ASt}{a:Act}{w:World}(hs:Sim C κ s a w){k l b:Nat}(hk:dA (obj? s.heap k)=true){e sz by_ t t2 ty:Nat}{es ys:List (List AV)}{tag2:Tag}{cap:Nat}{u2:Value}{c:Array Value}{ce:TypeId}
  (hu:Rel w κ (aO C.aN κ s.heap) (.slice es (.tip l sz)) (.slice (some ⟨b,0,none⟩) es.length cap)) (hb:at? κ l=some b) (hbc:w.heap[b]? =some (Obj.cells c ce (0,0))) (hcs:cap*sz≤c.size)
  (hl:obj? s.heap l=.tip (es.length*sz)) (hu2:Rel w κ (aO C.aN κ s.heap) (.slice ys tag2) u2) (he:kT P t=some (e,sz,by_)) (h2:aV.isSliceT P t2=true)
  (hlim:es.length+ys.length≤140737488355328) (h1:es.all (bX sz)=true) (h3:ys.all (bX sz)=true) (hroom:es.length+ys.length≤cap) (d:Option Tmp):
  ∃v κ' w',(Builtin.append_ #[t,t2] ty #[.slice (some ⟨b,0,none⟩) es.length cap,u2]).run P w=.ok v w'∧
   Sim C κ' (s.wr (.obj l .dead:: .obj k (.tip ((es++ys).length*sz))::aI d (.slice (es++ys) (.tip k sz)))) (a.put d v) w':=by
 obtain⟨hres,hlt⟩:=vT hk;have hlk:k<κ.length:=by rw[hs.klen];exact hlt
 have hlen:(es++ys).length=es.length+ys.length:=by simp
 obtain⟨ad2,cap2,e2,_,_⟩:=hu2.jL;obtain⟨new,n1,n2,n3⟩:=o8 (P:=P) hu2 (fun i hi=>(iD h3 i hi).1);obtain⟨hut,i,z,hi,hsz,hby,hz,hzs⟩:=mX he;obtain⟨el2,hu2t⟩:=qE h2;have hle:es.length*sz+ys.length*sz≤c.size:=by rw[←qAD];exact qAj (qAH _ hroom) hcs
 have hone:new.toList.all Yo=true:=by
  rw[qAC];intro x hx;obtain⟨m,hm,rfl⟩:=qCv hx;have hm':m<ys.length*sz:=by rw[←n2];simpa using hm
  have hzp:0<sz:=qBN (fun e=>by subst e;simp at hm');have hi':m/sz<ys.length:=(qCk hzp).2 hm';have hj':m%sz<sz:=qCH _ hzp;have hr:=n3 (m/sz) (m%sz) hi' hj';rw[qBA,qCp]at hr;have hg:new.getD m undef=new.toList[m]:=by
   have hms:m<new.size:=by simpa using hm
   simp[Array.getD,hms]
  rw[hg]at hr;refine adH hr ?_;obtain⟨q1,q2⟩:=iD h3 (m/sz) hi';generalize ys.getD (m/sz) []=ee at q1 q2⊢;have hlt':m%sz<ee.length:=by omega
  rw[List.getD,qAe hlt',qAi];exact qAC.1 q2 _ (qBp _)
 obtain⟨w',c',r1,r2,r3,r4,r5,r6,r7,r8,r9⟩:=KG (P:=P) (b:=b) (off:=es.length*sz) (e:=ce) new.toList 0 w c hbc (by simp[n2];omega) hone;have hrun:(Builtin.append_ #[t,t2] ty #[.slice (some ⟨b,0,none⟩) es.length cap,u2]).run P w=.ok (.slice (some ⟨b,0,none⟩) (es.length+ys.length) cap) w':=by
  have hsize:∀w:World,(sizeOf e).run P w=.ok sz w:=fun w=>by simp[sizeOf,typeInfo,hi,hsz]
  have hadd:Addr.add ⟨b,0,none⟩ (es.length*sz)=⟨b,es.length*sz,none⟩:=by rw[yN];simp
  have hn:Builtin.lenOf u2=pure ys.length:=by subst e2;rfl
  simp[Builtin.append_,run_underlying hut,run_underlying hu2t,hsize,hn,hroom,n1,hadd,r1]
 -- the new state
 have hsz':∀o,o<es.length*sz→c'.getD o undef=c.getD o undef:=fun o ho=>by rw[r4 o,if_neg (by omega)]
 have hevo:Evo (aO C.aN κ s.heap) w w':=by
  refine⟨by omega,fun x o y hn hc=>?_,fun x d e' z' hx=>?_⟩
  ·by_cases hxb:x=b
   ·subst hxb;have ho:o<es.length*sz:=Nat.lt_of_not_le fun hle'=>hn (.inr ⟨l,hb,by rw[hl];exact hle'⟩);have h5:=hsz' o ho;have hoc:o<c.size:=by omega
    have hoc':o<c'.size:=by omega
    simp only[World.cell?,hbc,Option.isSome_none,qAx,if_false,qBe hoc]at hc;simp only[World.cell?,r2,Option.isSome_none,qAx,if_false,qBe hoc'];simp only[Array.getD,hoc,hoc',dif_pos]at h5;rw[←hc];exact congrArg some h5
   ·simpa[World.cell?,r5 x hxb]using hc
  ·by_cases hxb:x=b
   ·subst hxb;rw[hbc]at hx;cases hx;exact⟨c',r2,r3⟩
   ·exact⟨d,by rw[r5 x hxb];exact hx,rfl⟩
 have hkn:∀x y,at? κ x=some y→k≠x:=fun x y hxy e=>by subst e;rw[hs.resv _ hres]at hxy;cases hxy
 have hlk':l≠k:=(hkn l b hb).symm;have hll:l<s.heap.length:=by rw[←hs.klen];exact lt_of_at? hb
 have hext:bV κ (κ.set k (some b)):=fun x y hxy=>by rw[at?_set_other (hkn x y hxy)];exact hxy
 let H':=(s.heap.set l .dead).set k (.tip ((es++ys).length*sz))
 have hobK:obj? H' k=.tip ((es++ys).length*sz):=obj?_set_same (by simpa using hlt);have hobL:obj? H' l=.dead:=by show obj? ((s.heap.set l .dead).set k _) l=_;rw[obj?_set_other hlk'.symm];exact obj?_set_same hll
 have hobO:∀x,x≠k→x≠l→obj? H' x=obj? s.heap x:=fun x h1 h2=>by show obj? ((s.heap.set l .dead).set k _) x=_;rw[obj?_set_other h1.symm,obj?_set_other h2.symm]
 have hp:∀x o,aO C.aN (κ.set k (some b)) H' x o→x<w.heap.size→aO C.aN κ s.heap x o:=by
  rintro x o (hx|⟨l',g1,g2⟩) _
  ·exact .inl hx
  ·by_cases hk':l'=k
   ·subst hk';rw[at?_set_same hlk]at g1;cases g1;rw[hobK]at g2;refine .inr ⟨l,hb,?_⟩;rw[hl];simp only[qW]at g2⊢;rw[hlen,qAD]at g2;omega
   ·by_cases hl':l'=l
    ·subst hl';rw[hobL]at g2;exact g2.elim
    ·rw[at?_set_other (qAZ hk')]at g1;rw[hobO l' hk' hl']at g2;exact .inr ⟨l',g1,g2⟩
 have hsim:Sim C (κ.set k (some b)) {s with heap:=H'} a w':=by
  refine hs.step (H':=H') hevo hext (by simp[H',hs.klen]) hp ?_ ?_ ?_ ?_ ?_ r7 r8 r9
  ·intro l' b' g1 g2;by_cases hk':l'=k
   ·subst hk';rw[at?_set_same hlk]at g1;cases g1;refine .inr ⟨by rw[r6];exact hs.bound l b hb,hs.own l b hb (by rw[hl];trivial),?_⟩;rw[hobK];exact⟨c',ce,r2,by rw[r3,hlen,qAD];exact hle⟩
   ·by_cases hl':l'=l
    ·subst hl';rw[hobL]at g2;exact g2.elim
    ·rw[at?_set_other (qAZ hk')]at g1;rw[hobO l' hk' hl']at g2⊢;refine .inl ⟨g1,rfl,r5 b' fun eb=>?_⟩;subst eb;exact hl' (hs.apart l' l b' g1 hb g2 (by rw[hl];trivial))
  ·intro l1 l2 b' g1 g2 g3 g4;by_cases e1:l1=k<;>by_cases e2:l2=k
   ·rw[e1,e2]
   ·subst e1;rw[at?_set_same hlk]at g1;cases g1;rw[at?_set_other (qAZ e2)]at g2;by_cases hl':l2=l
    ·subst hl';rw[hobL]at g4;exact g4.elim
    ·rw[hobO l2 e2 hl']at g4;exact(hl' (hs.apart l2 l b g2 hb g4 (by rw[hl];trivial))).elim
   ·subst e2;rw[at?_set_same hlk]at g2;cases g2;rw[at?_set_other (qAZ e1)]at g1;by_cases hl':l1=l
    ·subst hl';rw[hobL]at g3;exact g3.elim
    ·rw[hobO l1 e1 hl']at g3;exact(hl' (hs.apart l1 l b g1 hb g3 (by rw[hl];trivial))).elim
   ·rw[at?_set_other (qAZ e1)]at g1;rw[at?_set_other (qAZ e2)]at g2;refine hs.apart l1 l2 b' g1 g2 ?_ ?_
    ·by_cases hl':l1=l
     ·subst hl';rw[hl];trivial
     ·rwa[hobO l1 e1 hl']at g3
    ·by_cases hl':l2=l
     ·subst hl';rw[hl];trivial
     ·rwa[hobO l2 e2 hl']at g4
  ·intro l' b' g1;rw[r6];by_cases hk':l'=k
   ·subst hk';rw[at?_set_same hlk]at g1;cases g1;exact hs.bound l b hb
   ·rw[at?_set_other (qAZ hk')]at g1;exact hs.bound l' b' g1
  ·intro l' g1;by_cases hk':l'=k
   ·subst hk';rw[hobK]at g1;cases g1
   ·by_cases hl':l'=l
    ·subst hl';rw[hobL]at g1;cases g1
    ·rw[hobO l' hk' hl']at g1;rw[at?_set_other (qAZ hk')];exact hs.resv l' g1
  ·intro b' hb';refine r5 b' fun eb=>?_;subst eb;exact hs.own l b' hb (by rw[hl];trivial) hb'
 refine⟨_,κ.set k (some b),w',hrun,?_⟩;refine hsim.aI d ?_;have hrel:=Rel.slice (w:=w') (κ:=κ.set k (some b)) (pv:=aO C.aN (κ.set k (some b)) H') (es:=es++ys) (tag:=.tip k sz) (a:=some ⟨b,0,none⟩) (cap:=cap) b 0 sz (fun i j=>c'.getD (i*sz+j) undef)
  (fun i hi=>by
   rw[hlen]at hi;by_cases hlt:i<es.length
   ·have:(es++ys).getD i []=es.getD i []:=by simp[List.getD,qAf hlt]
    rw[this];exact(iD h1 i hlt).1
   ·have:(es++ys).getD i []=ys.getD (i - es.length) []:=by simp[List.getD,qAm (qAu hlt)]
    rw[this];exact(iD h3 _ (by omega)).1)
  (fun _=>rfl) (by rw[hlen];exact hroom) (by rw[hlen];omega)
  (fun i j hi hj hpv=>by
   have hix:=sG hi hj;rcases hpv with hx|⟨l',g1,g2⟩
   ·exact hs.own l b hb (by rw[hl];trivial) (hs.pvold _ _ hx)
   ·by_cases hk':l'=k
    ·subst hk';rw[hobK]at g2;simp only[qW]at g2;omega
    ·by_cases hl':l'=l
     ·subst hl';rw[hobL]at g2;exact g2.elim
     ·rw[at?_set_other (qAZ hk')]at g1;rw[hobO l' hk' hl']at g2;have hlv:live (obj? s.heap l'):=by revert g2;cases obj? s.heap l'<;>simp[qW,live]
      exact hl' (hs.apart l' l b g1 hb hlv (by rw[hl];trivial)))
  (fun i j hi hj=>by
   have hix:=sG hi hj;rw[hlen,qAD]at hix;have:i*sz+j<c'.size:=by omega
   simp[World.cell?,r2,Array.getD,this])
  (fun i j hi hj=>by
   rw[hlen]at hi;by_cases hlt:i<es.length
   ·have e1:(es++ys).getD i []=es.getD i []:=by simp[List.getD,qAf hlt]
    have hix:=sG hlt hj;rw[e1,hsz' _ hix];obtain⟨old,o1,o2,o3⟩:=o8 (P:=P) hu (fun i hi=>(iD h1 i hi).1);have:=o3 i j hlt hj;have eo:old.getD (i*sz+j) undef=c.getD (i*sz+j) undef:=by
     have hrun2:=run_loadCellsFrom (P:=P) (w:=w) (b:=b) (off:=0) (fun m=>c.getD m undef) (es.length*sz) 0 #[] (fun m hm=>by
      have:m<c.size:=by omega
      simp[World.cell?,hbc,Array.getD,this])
     simp only[Builtin.firstCells,loadCells]at o1;rw[hrun2]at o1;simp only[Result.ok.injEq]at o1;rw[←o1.1];simp[Array.getD,hix]
    rw[eo]at this;exact this.mono hevo hext hp
   ·have e1:(es++ys).getD i []=ys.getD (i - es.length) []:=by simp[List.getD,qAm (qAu hlt)]
    have hi':i - es.length<ys.length:=by omega
    have h4:=sG hi' hj;have h5:i*sz=es.length*sz+(i - es.length)*sz:=by rw[←qAD];congr 1;omega
    have e2:c'.getD (i*sz+j) undef=new.getD ((i - es.length)*sz+j) undef:=by
     rw[r4,if_pos (by simp[n2];omega)];rw[show i*sz+j - (es.length*sz+0)=(i - es.length)*sz+j from by omega];simp[qAh,List.getD]
    rw[e1,e2];exact(n3 _ j hi' hj).mono hevo hext hp)
  ⟨rfl,.inr ⟨b,c',ce,at?_set_same hlk,rfl,r2,by rw[r3];exact hcs⟩⟩
 rw[hlen]at hrel;exact hrel
end
section
open Go
theorem QS{aN:bB}{κ:bg}{H:List AObj}{l:Nat}:∀x o,aO aN κ (H.set l .dead) x o→aO aN κ H x o:=by
 rintro x o (hb|⟨l',h1,h2⟩)
 ·exact .inl hb
 ·by_cases e:l=l'
  ·subst e;by_cases hlt:l<H.length
   ·rw[obj?_set_same hlt]at h2;exact h2.elim
   ·rw[obj?,qAn (by simp;omega)]at h2;exact h2.elim
  ·rw[obj?_set_other e]at h2;exact .inr ⟨l',h1,h2⟩
theorem XV{P:Program}{o:Oper}{s:ASt}{args:Array Operand}{argTypes:Array TypeId}{x y:Operand}{t t2 k l e sz by_:Nat}{es ys:List (List AV)}{tag:Tag}(ho:o.op=.call {callee:=.builtin .append,args,argTypes})
  (ha:args.toList=[x,y]) (ht:argTypes.toList=[t,t2]) (he:kT P t=some (e,sz,by_)) (h2:aV.isSliceT P t2=true) (hx:bC s.tmps x=.slice es (.tip l sz)) (hy:bC s.tmps y=.slice ys tag)
  (hl:obj? s.heap l=.tip (es.length*sz)) (hk:dA (obj? s.heap k)=true) (hb:(es.length+ys.length)*by_≤140737488355328) (hlim:es.length+ys.length≤140737488355328) (h1:es.all (bX sz)=true) (h3:ys.all (bX sz)=true):
  tu P o s (s.wr (.obj l .dead:: .obj k (.tip ((es++ys).length*sz))::aI o.dst (.slice (es++ys) (.tip k sz)))):=
 mF fun C κ a w hs=>by
  have ea:args=#[x,y]:=by rw[←qAG (xs:=args),ha]
  have et:argTypes=#[t,t2]:=by rw[←qAG (xs:=argTypes),ht]
  subst ea et;have hrx:=hs.ev x;rw[hx]at hrx;have hry:=hs.ev y;rw[hy]at hry;have hexec:∀(v:Value) (w':World),(Builtin.append_ #[t,t2] o.type #[a.eval x,a.eval y]).run P w=.ok v w'→(execOp a.eval o).run P w=.ok (.value v) w':=fun v w' h=>by
   simp[execOp,ho,resolve,invoke,builtin,h]
  have hlk:l≠k:=fun e=>by subst e;rw[hl]at hk;cases hk
  have hs1:=hs.kill l;have hev:Evo (aO C.aN κ s.heap) w w:=Evo.refl _ _;have hrx1:Rel w κ (aO C.aN κ (s.setObj l .dead).heap) (.slice es (.tip l sz)) (a.eval x):=hrx.mono hev (bV.refl _) (fun x o h _=>QS x o h);have hry1:Rel w κ (aO C.aN κ (s.setObj l .dead).heap) (.slice ys tag) (a.eval y):=hry.mono hev (bV.refl _) (fun x o h _=>QS x o h);have hk1:dA (obj? (s.setObj l .dead).heap k)=true:=by simp only[ASt.setObj];rw[obj?_set_other hlk];exact hk
  have hgrow:(∀ad n cap,a.eval x=.slice ad n cap→cap<es.length+ys.length)→∃u κ' w',(execOp a.eval o).run P w=.ok (.value u) w'∧
    Sim C κ' (s.wr (.obj l .dead:: .obj k (.tip ((es++ys).length*sz))::aI o.dst (.slice (es++ys) (.tip k sz)))) (a.put o.dst u) w':=fun hroom=>by
   obtain⟨v,κ',w',h4,h5⟩:=Tz (P:=P) (ty:=o.type) hs1 hk1 hrx1 hry1 he h2 hb hlim h1 h3 hroom o.dst;exact⟨v,κ',w',hexec _ _ h4,h5⟩
  obtain⟨ad,cap,hax,hcap,_⟩:=hrx.jL;have htag:Ma w κ ad cap sz (.tip l sz)∧(es≠[]→ad≠none):=by
   rw[hax]at hrx;cases hrx with
   |slice b off sz' f q1 q2 q3 q4 q5 q6 q7 ht'=>
    obtain⟨e1,e2⟩:=ht';subst e1;exact⟨⟨rfl,e2⟩,fun hne=>by rw[q2 hne];simp⟩
  obtain⟨⟨_,htag⟩,hne⟩:=htag;by_cases hroom:cap<es.length+ys.length
  ·exact hgrow fun ad' n' cap' hu=>by rw[hax]at hu;cases hu;exact hroom
  ·rcases htag with⟨rfl,rfl⟩|⟨b,c,ce,t1,rfl,t3,t4⟩
   ·-- nil, and nothing appended
    have hes:es=[]:=by cases es with|nil=>rfl|cons=>exact(hne (by simp) rfl).elim
    have hys:ys=[]:=by cases ys with|nil=>rfl|cons=>simp at hroom
    subst hes hys;obtain⟨ad2,cap2,e2,_,_⟩:=hry.jL;obtain⟨hu,i,z,hi,rfl,rfl,hz,hzs⟩:=mX he;obtain⟨el2,hu2⟩:=qE h2;obtain⟨hres,hlt⟩:=vT hk1;refine⟨.slice none 0 0,κ,w,hexec _ _ ?_,?_⟩
    ·rw[hax,e2];have hfc:(Builtin.firstCells i.size 0 (.slice ad2 0 cap2)).run P w=.ok #[] w:=by cases ad2<;>simp[Builtin.firstCells,loadCells,loadCellsFrom]
     have hsize:∀w:World,(sizeOf e).run P w=.ok i.size w:=fun w=>by simp[sizeOf,typeInfo,hi]
     simp only[qAE]at *;simp[Builtin.append_,run_underlying hu,run_underlying hu2,hsize,Builtin.lenOf,hfc]
    ·have hsim:Sim C κ ((s.setObj l .dead).setObj k (.tip 0)) a w:=by
      have hnone:=hs1.resv k hres;have hne:∀l' b,at? κ l'=some b→k≠l':=fun l' b hb e=>by subst e;rw[hnone]at hb;cases hb
      refine hs1.step (H':=(s.setObj l .dead).heap.set k (.tip 0)) (Evo.refl _ _) (bV.refl _) (by simp[hs1.klen]) ?_ (fun l' b h1 h2=>.inl ⟨h1,obj?_set_other (hne l' b h1),rfl⟩)
       (fun l1 l2 b g1 g2 g3 g4=>hs1.apart l1 l2 b g1 g2 (by rwa[obj?_set_other (hne l1 b g1)]at g3) (by rwa[obj?_set_other (hne l2 b g2)]at g4)) hs1.bound ?_ (fun _ _=>rfl) rfl rfl rfl
      ·rintro b o (hb|⟨l',g1,g2⟩) _
       ·exact .inl hb
       ·rw[obj?_set_other (hne l' b g1)]at g2;exact .inr ⟨l',g1,g2⟩
      ·intro l' hl';by_cases e:k=l'
       ·subst e;exact hnone
       ·rw[obj?_set_other e]at hl';exact hs1.resv l' hl'
     have:=hsim.aI o.dst (v:=.slice [] (.tip k i.size)) (u:=.slice none 0 0) (.slice (es:=[]) 0 0 i.size (fun _ _=>undef) (fun i h=>by cases h) (fun h=>(h rfl).elim) (qAV _) (by simp) (fun i j h=>by cases h) (fun i j h=>by cases h) (fun i j h=>by cases h) ⟨rfl,.inl ⟨rfl,rfl⟩⟩);have ez:(([]:List (List AV))++[]).length*i.size=0:=by simp
     rw[ez];exact this
   ·rw[hax]at hrx hexec;obtain⟨v,κ',w',h4,h5⟩:=aeS (P:=P) (ty:=o.type) hs hk hrx t1 t3 t4 hl hry he h2 hlim h1 h3 (by omega) o.dst;exact⟨v,κ',w',hexec _ _ h4,h5⟩
theorem ab2{place:Nat→Option (Nat×Nat)}:∀(parts:List (Nat×AV)) (cs out:List AV),kR place cs parts=some out→out.length=cs.length:=by
 intro parts
 induction parts with
 |nil=>intro cs out h;simp only[kR,Option.some.injEq]at h;rw[h]
 |cons p parts ih=>
  intro cs out h;simp only[kR]at h
  grind
theorem aeY(sz:Nat):∀(n:Nat) (cs:List AV),cs.length=n*sz→(chunks sz n cs).length=n∧∀i,i<n→((chunks sz n cs).getD i []).length=sz∧∀j,j<sz→((chunks sz n cs).getD i []).getD j .unk=cs.getD (i*sz+j) .unk:=by
 intro n
 induction n with
 |zero=>intro cs _;exact⟨rfl,fun i hi=>by cases hi⟩
 |succ n ih=>
  intro cs hl;rw[qAD,qBW]at hl;obtain⟨h1,h2⟩:=ih (cs.drop sz) (by simp;omega);refine⟨by simp[chunks,h1],fun i hi=>?_⟩;cases i with
  |zero=>
   refine⟨by simp[chunks,List.getD];omega,fun j hj=>?_⟩;simp only[chunks,List.getD,qAp,qAi,qDc,qAw]
   grind
  |succ i=>
   obtain⟨h3,h4⟩:=h2 i (by omega);refine⟨by simpa[chunks,List.getD]using h3,fun j hj=>?_⟩;have:=h4 j hj;rw[getD_drop]at this;rw[show(i+1)*sz+j=sz+(i*sz+j)from by rw[qAD];omega];rw[←this];simp[chunks,List.getD]
theorem NS(z:List AV):∀(n m:Nat),m<n*z.length→((List.replicate n z).flatten).getD m .unk=z.getD (m%z.length) .unk:=by
 intro n
 induction n with
 |zero=>intro m hm;simp at hm
 |succ n ih=>
  intro m hm;rw[List.replicate_succ,qBQ];by_cases hlt:m<z.length
  ·rw[List.getD,qAf hlt,qBU hlt];rfl
  ·have hle:z.length≤m:=by omega
   rw[List.getD,qAm hle];have:=ih (m - z.length) (by rw[qAD]at hm;omega);rw[List.getD]at this;rw[this,Nat.mod_eq_sub_mod hle]
theorem Rel.shr{w:World}{κ:bg}{pv:bB}{x:AV}{v:Value}(h:Rel w κ pv x v):Rel w κ pv (shr x) v:=by
 cases h with
 |slice b off sz u h1 h2 h3 h3' h4 h5 h6 _=>exact .slice b off sz u h1 h2 h3 h3' h4 h5 h6 trivial
 |unk=>exact .unk _
 |int h=>exact .int h
 |bool=>exact .bool _
 |str h=>exact .str h
 |nilp=>exact .nilp
 |ifc t v=>exact .ifc t v
 |ptr h=>exact .ptr h
 |eptr u a b c=>exact .eptr u a b c
 |agg a b=>exact .agg a b
 |tup a b=>exact .tup a b
 |func a b=>exact .func a b
 |mapr h=>exact .mapr h
 |nilFunc=>exact .nilFunc
 |yv l=>exact .yv l
 |psl h1 h2 h3=>exact .psl h1 h2 h3
 |flnil=>exact .flnil
 |flcons u x a b c d e=>exact .flcons u x a b c d e
theorem QA{cs:List AV}{j:Nat}:(cs.map Abs.shr).getD j .unk=Abs.shr (cs.getD j .unk):=by
 simp;cases cs[j]?<;>rfl
theorem YC{P:Program}{o:Oper}{s:ASt}{t len k e sz by_:Nat}{parts:Array (Nat×Operand)}{z cs:List AV}(ho:o.op=.buildSlice t len parts)(he:kT P t=some (e,sz,by_))(hz:kU P e=some z)
  (hk:dA (obj? s.heap k)=true) (hlim:len*sz≤16777216) (hlim2:len≤16777216) (hzl:z.length=sz) (hf:kR (fun i=>some (i*sz,sz)) ((List.replicate len z).flatten) (parts.toList.map fun p=>(p.1,bC s.tmps p.2))=some cs):
  tu P o s (s.wr (.obj k (.tip (len*sz))::aI o.dst (.slice (chunks sz len (cs.map shr)) (.tip k sz)))):=
 mF fun C κ a w hs=>by
  obtain⟨hut,i,zv',hi,hsz,hby,hzz,hzs⟩:=mX he;obtain⟨zv,z1,z2,z3⟩:=Vw hz;have hlen0:((List.replicate len z).flatten).length=len*sz:=by simp[hzl]
  let zero:Array Value:=if len*sz=0 then #[]else zv.cells
  let init:Array Value:=(Array.range (len*sz)).map (zero[·%zero.size]!)
  have hinit:init.size=((List.replicate len z).flatten).length:=by rw[hlen0];simp[init]
  have hrel:∀j,j<((List.replicate len z).flatten).length→Rel w κ (aO C.aN κ s.heap) (((List.replicate len z).flatten).getD j .unk) (init.getD j undef):=fun j hj=>by
   rw[hlen0]at hj;have hpos:0<sz:=qBN (fun e=>by subst e;simp at hj);have hz0:zero=zv.cells:=by show(if _ then _ else _)=_;rw[if_neg (by omega)]
   have hzsz:zero.size=sz:=by rw[hz0,z2,hzl]
   rw[NS z len j (by rw[hzl];exact hj),hzl];have hm:j%sz<sz:=qCH _ hpos;have e1:init.getD j undef=zv.cells.getD (j%sz) undef:=by
    have hlt:j%sz<zv.cells.size:=by rw[z2,hzl];exact hm
    simp only[init,Array.getD,Array.size_map,Array.size_range,hj,dif_pos,Array.getInternal_eq_getElem,Array.getElem_map,Array.getElem_range,hzsz,hz0,hlt];have hzv:zv.cells.size=sz:=by rw[z2,hzl]
    rw[show j%zv.cells.size=j%sz from by rw[hzv]];exact getElem!_pos zv.cells (j%sz) hlt
   rw[e1];exact z3 _ _ _ _ (by rw[hzl];exact hm)
  obtain⟨c',f1,f2,f3⟩:=LX (w:=w) (κ:=κ) (pv:=aO C.aN κ s.heap) (place:=fun i=>some (i*sz,sz)) (parts.toList.map fun p=>(p.1,bC s.tmps p.2)) (parts.toList.map fun p=>(p.1,a.eval p.2)) _ cs init (by simp)
   (fun j hj=>by
    simp only[qAo]at hj;simp only[List.getD,qAF,qAe hj,qAt,qAi];exact⟨trivial,hs.ev _⟩) hinit hrel hf
  have hcl:cs.length=len*sz:=by rw[ab2 _ _ _ hf,hlen0]
  obtain⟨c1,c2⟩:=aeY sz len (cs.map Abs.shr) (by simpa using hcl);obtain⟨κ',hsim⟩:=Pf (P:=P) hs hk (es:=chunks sz len (cs.map Abs.shr)) (c:=c') (e:=e) (cap:=len) (sz:=sz) (fun i hi=>(c2 i (by omega)).1) (by omega) (by omega) (by rw[f2,hcl];exact qAc _)
   (fun i j hi hj=>by
    rw[c1]at hi;rw[(c2 i hi).2 j hj,QA];exact(f3 _ (by rw[hcl];exact sG hi hj)).shr) o.dst
  rw[c1]at hsim;refine⟨_,κ',_,?_,hsim⟩;have hsize:(sizeOf e).run P w=.ok sz w:=by simp[sizeOf,typeInfo,hi,hsz]
  have e1:(parts.map fun p=>(p.1,a.eval p.2)).toList=parts.toList.map fun p=>(p.1,a.eval p.2):=by simp
  simp only[execOp,ho,Instr.buildSlice,Sem.run_bind,run_underlying hut,Result.andThen_ok,hsize];rw[Sem.run_ite,if_neg (by omega)];simp only[Sem.run_pure,Result.andThen_ok,Sem.run_bind];rw[e1];by_cases h0:len*sz=0
  ·have hz0:zero=#[]:=if_pos h0;have einit:(Array.range (len*sz)).map (fun x=>(#[]:Array Value)[x%(#[]:Array Value).size]!)=init:=by simp only[init,hz0]
   rw[if_pos h0];simp only[Sem.run_pure,Result.andThen_ok,Sem.run_bind];rw[einit,f1];simp[newRow]
  ·have hz0:zero=zv.cells:=if_neg h0;have einit:(Array.range (len*sz)).map (fun x=>zv.cells[x%zv.cells.size]!)=init:=by simp only[init,hz0]
   rw[if_neg h0];simp only[Sem.run_pure,Result.andThen_ok,Sem.run_bind,z1];rw[einit,f1];simp[newRow]
end
end Abs
end Go.Proofs.YtkopaeklihhdlaaGreat

/-
  append onto a slice whose block nobody else looks at. Conditions: none; lemmas over any program and world.
-/
import Derived.Laws.MakeOwn
import Derived.Test.YtkopaeklihhdlaaGreatCAbs11ox9968b4
set_option linter.all false
namespace Go.Proofs.YtkopaeklihhdlaaGreat
namespace Abs
section
open Go
theorem afy{o:AObj}{n:Nat}(h:qW o n):live o:=by cases o<;>simp[qW,live]at *
theorem Xn{C:Ctx}{κ:bg}{s:ASt}{a:Act}{w:World}(hs:Sim C κ s a w){k:Nat}(hk:dA (obj? s.heap k)=true){es:List (List AV)}{c:Array Value}{e:TypeId}{cap sz:Nat}
  (hlen:∀i,i<es.length→(es.getD i []).length=sz) (hcap:es.length≤cap) (hbd:es.length≤140737488355328) (hc:cap*sz≤c.size)
  (hr:∀i j,i<es.length→j<sz→Rel w κ (aO C.aN κ s.heap) ((es.getD i []).getD j .unk) (c.getD (i*sz+j) undef)) (d:Option Tmp):
  ∃κ',Sim C κ' (s.wr (.obj k (.arr sz es)::aI d (.psl k sz es.length))) (a.put d (.slice (some ⟨w.heap.size,0,none⟩) es.length cap)) {w with heap:=w.heap.push (.cells c e (0,0))}:=by
 obtain⟨hres,hlt⟩:=vT hk;have hlk:k<κ.length:=by rw[hs.klen];exact hlt
 have hsim:=hs.new (hs.resv k hres) hlt (.cells c e (0,0)) (.arr sz es) (by simp) ⟨c,e,sw,qAj (qAH _ hcap) hc,hlen,fun i j hi hj=>Y4 hs hres hlt _ (hr i j hi hj)⟩;exact⟨_,hsim.aI d (.psl hcap hbd ⟨rfl,.inr ⟨w.heap.size,c,e,at?_set_same hlk,rfl,sw,hc⟩⟩)⟩
theorem ai1{P:Program}{C:Ctx}{κ:bg}{s:ASt}{a:Act}{w:World}(hs:Sim C κ s a w){k:Nat}(hk:dA (obj? s.heap k)=true){t t2 e sz by_ ty:Nat}{es ys:List (List AV)}{tag tag2:Tag}{u u2:Value}
  (hu:Rel w κ (aO C.aN κ s.heap) (.slice es tag) u) (hu2:Rel w κ (aO C.aN κ s.heap) (.slice ys tag2) u2) (he:kT P t=some (e,sz,by_)) (h2:aV.isSliceT P t2=true)
  (hb:(es.length+ys.length)*by_≤140737488355328) (hlim:es.length+ys.length≤140737488355328) (h1:es.all (bX sz)=true) (h3:ys.all (bX sz)=true)
  (hroom:∀ad n cap,u=.slice ad n cap→cap<es.length+ys.length) (d:Option Tmp):
  ∃v κ' w',(Builtin.append_ #[t,t2] ty #[u,u2]).run P w=.ok v w'∧Sim C κ' (s.wr (.obj k (.arr sz (es++ys))::aI d (.psl k sz (es++ys).length))) (a.put d v) w':=by
 obtain⟨ad,cap,rfl,hcap,_⟩:=hu.jL;obtain⟨ad2,cap2,e2,_,_⟩:=hu2.jL;have hsd:Sim C κ s a w.drew:=hs.sameHeap rfl rfl rfl rfl;have hev:Evo (aO C.aN κ s.heap) w w.drew:=Evo.of_heap rfl;have hu':=hu.mono hev (bV.refl _) (fun _ _ h _=>h);have hu2':=hu2.mono hev (bV.refl _) (fun _ _ h _=>h);obtain⟨old,o1,o2,o3⟩:=o8 (P:=P) hu' (fun i hi=>(iD h1 i hi).1);obtain⟨new,n1,n2,n3⟩:=o8 (P:=P) hu2' (fun i hi=>(iD h3 i hi).1);obtain⟨_,i,z,hi,hsz,hby,hz,hzs⟩:=mX he;have hgr:=hroom ad es.length cap rfl;obtain⟨nc,hnc,hrun⟩:=run_append_grow (P:=P) (w:=w) (ty:=ty) (a:=ad) (len:=es.length) (cap:=cap) (n:=ys.length) (u2:=u2) (old:=old) (new:=new) (z:=z) he h2 (by subst e2;rfl) hgr hb hlim
  (by simp[zeroValue,typeInfo,hi,hz]) o1 n1
 have hlen:(es++ys).length=es.length+ys.length:=by simp
 have hsize:(old++new++Builtin.zeroCells z.cells (nc - (es.length+ys.length))).size=nc*sz:=by
  simp only[qCb,o2,n2,size_zeroCells,hzs];rw[←qAD,←qAD]
  grind
 obtain⟨κ',hsim⟩:=Xn hsd hk (es:=es++ys) (c:=old++new++Builtin.zeroCells z.cells (nc - (es.length+ys.length))) (e:=e) (cap:=nc) (sz:=sz)
  (fun i hi=>by
   rw[hlen]at hi;by_cases hlt:i<es.length
   ·have:(es++ys).getD i []=es.getD i []:=by simp[List.getD,qAf hlt]
    rw[this];exact(iD h1 i hlt).1
   ·have:(es++ys).getD i []=ys.getD (i - es.length) []:=by simp[List.getD,qAm (qAu hlt)]
    rw[this];exact(iD h3 _ (by omega)).1)
  (by omega) (by omega) (qCa hsize.symm)
  (fun i j hi hj=>by
   rw[hlen]at hi;by_cases hlt:i<es.length
   ·have e1:(es++ys).getD i []=es.getD i []:=by simp[List.getD,qAf hlt]
    have e2:(old++new++Builtin.zeroCells z.cells (nc - (es.length+ys.length))).getD (i*sz+j) undef=old.getD (i*sz+j) undef:=by
     have:=sG hlt hj;simp only[qAh];rw[Array.append_assoc,qAS (by omega)]
    grind
   ·have e1:(es++ys).getD i []=ys.getD (i - es.length) []:=by simp[List.getD,qAm (qAu hlt)]
    have hi':i - es.length<ys.length:=by omega
    have e2:(old++new++Builtin.zeroCells z.cells (nc - (es.length+ys.length))).getD (i*sz+j) undef=new.getD ((i - es.length)*sz+j) undef:=by
     have h4:=sG hi' hj;have h5:i*sz=es.length*sz+(i - es.length)*sz:=by rw[←qAD];congr 1;omega
     simp only[qAh];rw[qAS (by rw[qCb];omega),qBg (by omega)];congr 2;omega
    rw[e1,e2];exact n3 _ j hi' hj) d
 refine⟨_,κ',_,hrun,?_⟩;rw[hlen]at hsim⊢;exact hsim
theorem ady{P:Program}{C:Ctx}{κ:bg}{s:ASt}{a:Act}{w:World}(hs:Sim C κ s a w){k l b:Nat}(hk:dA (obj? s.heap k)=true){e sz by_ t t2 ty:Nat}{es es0 ys:List (List AV)}{tag2:Tag}{cap:Nat}{u2:Value}{c:Array Value}{ce:TypeId}
  (hcapl:es.length≤cap) (hb:at? κ l=some b) (hbc:w.heap[b]? =some (Obj.cells c ce (0,0))) (hcs:cap*sz≤c.size)
  (hl:obj? s.heap l=.arr sz es0) (hes:es=es0.take es.length) (hu2:Rel w κ (aO C.aN κ s.heap) (.slice ys tag2) u2) (he:kT P t=some (e,sz,by_)) (h2:aV.isSliceT P t2=true)
  (hlim:es.length+ys.length≤140737488355328) (h1:es.all (bX sz)=true) (h3:ys.all (bX sz)=true) (hroom:es.length+ys.length≤cap) (d:Option Tmp):
  ∃v κ' w',(Builtin.append_ #[t,t2] ty #[.slice (some ⟨b,0,none⟩) es.length cap,u2]).run P w=.ok v w'∧
   Sim C κ' (s.wr (.obj l .dead:: .obj k (.arr sz (es++ys))::aI d (.psl k sz (es++ys).length))) (a.put d v) w':=by
 obtain⟨hres,hlt⟩:=vT hk;have hlk:k<κ.length:=by rw[hs.klen];exact hlt
 have hlen:(es++ys).length=es.length+ys.length:=by simp
 obtain⟨ad2,cap2,e2,_,_⟩:=hu2.jL;obtain⟨new,n1,n2,n3⟩:=o8 (P:=P) hu2 (fun i hi=>(iD h3 i hi).1);obtain⟨hut,i,z,hi,hsz,hby,hz,hzs⟩:=mX he;obtain⟨el2,hu2t⟩:=qE h2;have hle:es.length*sz+ys.length*sz≤c.size:=by rw[←qAD];exact qAj (qAH _ hroom) hcs
 have hone:new.toList.all Yo=true:=by
  rw[qAC];intro x hx;obtain⟨m,hm,rfl⟩:=qCv hx;have hm':m<ys.length*sz:=by rw[←n2];simpa using hm
  have hzp:0<sz:=qBN (fun e=>by subst e;simp at hm');have hi':m/sz<ys.length:=(qCk hzp).2 hm';have hj':m%sz<sz:=qCH _ hzp;have hr:=n3 (m/sz) (m%sz) hi' hj';rw[qBA,qCp]at hr;have hg:new.getD m undef=new.toList[m]:=by
   have hms:m<new.size:=by simpa using hm
   simp[Array.getD,hms]
  rw[hg]at hr;refine adH hr ?_;obtain⟨q1,q2⟩:=iD h3 (m/sz) hi';generalize ys.getD (m/sz) []=ee at q1 q2⊢;have hlt':m%sz<ee.length:=by omega
  rw[List.getD,qAe hlt',qAi];exact qAC.1 q2 _ (qBp _)
 obtain⟨w',c',r1,r2,r3,r4,r5,r6,r7,r8,r9⟩:=KG (P:=P) (b:=b) (off:=es.length*sz) (e:=ce) new.toList 0 w c hbc (by simp[n2];omega) hone;have hrun:(Builtin.append_ #[t,t2] ty #[.slice (some ⟨b,0,none⟩) es.length cap,u2]).run P w=.ok (.slice (some ⟨b,0,none⟩) (es.length+ys.length) cap) w':=by
  have hsize:∀w:World,(sizeOf e).run P w=.ok sz w:=fun w=>by simp[sizeOf,typeInfo,hi,hsz]
  have hadd:Addr.add ⟨b,0,none⟩ (es.length*sz)=⟨b,es.length*sz,none⟩:=by rw[yN];simp
  have hn:Builtin.lenOf u2=pure ys.length:=by subst e2;rfl
  simp[Builtin.append_,run_underlying hut,run_underlying hu2t,hsize,hn,hroom,n1,hadd,r1]
 -- the new state
 have hsz':∀o,o<es.length*sz→c'.getD o undef=c.getD o undef:=fun o ho=>by rw[r4 o,if_neg (by omega)]
 have hevo:Evo (aO C.aN κ s.heap) w w':=by
  refine⟨by omega,fun x o y hn hc=>?_,fun x d e' z' hx=>?_⟩
  ·by_cases hxb:x=b
   ·subst hxb;exact(hn (.inr ⟨l,hb,by rw[hl];trivial⟩)).elim
   ·simpa[World.cell?,r5 x hxb]using hc
  ·by_cases hxb:x=b
   ·subst hxb;rw[hbc]at hx;cases hx;exact⟨c',r2,r3⟩
   ·exact⟨d,by rw[r5 x hxb];exact hx,rfl⟩
 have hkn:∀x y,at? κ x=some y→k≠x:=fun x y hxy e=>by subst e;rw[hs.resv _ hres]at hxy;cases hxy
 have hlk':l≠k:=(hkn l b hb).symm;have hll:l<s.heap.length:=by rw[←hs.klen];exact lt_of_at? hb
 have hext:bV κ (κ.set k (some b)):=fun x y hxy=>by rw[at?_set_other (hkn x y hxy)];exact hxy
 let H':=(s.heap.set l .dead).set k (.arr sz (es++ys))
 have hobK:obj? H' k=.arr sz (es++ys):=obj?_set_same (by simpa using hlt);have hobL:obj? H' l=.dead:=by show obj? ((s.heap.set l .dead).set k _) l=_;rw[obj?_set_other hlk'.symm];exact obj?_set_same hll
 have hobO:∀x,x≠k→x≠l→obj? H' x=obj? s.heap x:=fun x h1 h2=>by show obj? ((s.heap.set l .dead).set k _) x=_;rw[obj?_set_other h1.symm,obj?_set_other h2.symm]
 have hp:∀x o,aO C.aN (κ.set k (some b)) H' x o→x<w.heap.size→aO C.aN κ s.heap x o:=by
  rintro x o (hx|⟨l',g1,g2⟩) _
  ·exact .inl hx
  ·by_cases hk':l'=k
   ·subst hk';rw[at?_set_same hlk]at g1;cases g1;exact .inr ⟨l,hb,by rw[hl];trivial⟩
   ·by_cases hl':l'=l
    ·subst hl';rw[hobL]at g2;exact g2.elim
    ·rw[at?_set_other (qAZ hk')]at g1;rw[hobO l' hk' hl']at g2;exact .inr ⟨l',g1,g2⟩
 have hold:=hs.obj l b hb (by rw[hl];trivial);rw[hl]at hold;obtain⟨c0,ce0,q1,q2,q3,q4⟩:=hold;rw[hbc]at q1;cases q1;have hlt0:∀i,i<es.length→i<es0.length∧es.getD i []=es0.getD i []:=fun i hi=>by
  have h5:i<(es0.take es.length).length:=by rw[←hes];exact hi
  simp only[qBd]at h5;refine⟨by omega,?_⟩;rw[hes];simp only[List.getD,qAW,if_pos hi]
 have hlens:∀i,i<(es++ys).length→((es++ys).getD i []).length=sz:=fun i hi=>by
  rw[hlen]at hi;by_cases hlt:i<es.length
  ·have:(es++ys).getD i []=es.getD i []:=by simp[List.getD,qAf hlt]
   rw[this];exact(iD h1 i hlt).1
  ·have:(es++ys).getD i []=ys.getD (i - es.length) []:=by simp[List.getD,qAm (qAu hlt)]
   rw[this];exact(iD h3 _ (by omega)).1
 have hrels:∀i j,i<(es++ys).length→j<sz→Rel w κ (aO C.aN κ s.heap) (((es++ys).getD i []).getD j .unk) (c'.getD (i*sz+j) undef):=fun i j hi hj=>by
  rw[hlen]at hi;by_cases hlt:i<es.length
  ·have e1:(es++ys).getD i []=es.getD i []:=by simp[List.getD,qAf hlt]
   rw[e1,hsz' _ (sG hlt hj),(hlt0 i hlt).2];exact q4 i j (hlt0 i hlt).1 hj
  ·have e1:(es++ys).getD i []=ys.getD (i - es.length) []:=by simp[List.getD,qAm (qAu hlt)]
   have hi':i - es.length<ys.length:=by omega
   have h4:=sG hi' hj;have h5:i*sz=es.length*sz+(i - es.length)*sz:=by rw[←qAD];congr 1;omega
   rw[e1,r4 (i*sz+j),if_pos (by simp only[qAP,qBK,n2];omega)];have h6:new.toList.getD (i*sz+j - (es.length*sz+0)) undef=new.getD ((i - es.length)*sz+j) undef:=by
    rw[show i*sz+j - (es.length*sz+0)=(i - es.length)*sz+j by omega];simp[List.getD,qAh]
   rw[h6];exact n3 _ j hi' hj
 have hsim:Sim C (κ.set k (some b)) {s with heap:=H'} a w':=by
  refine hs.step (H':=H') hevo hext (by simp[H',hs.klen]) hp ?_ ?_ ?_ ?_ ?_ r7 r8 r9
  ·intro l' b' g1 g2;by_cases hk':l'=k
   ·subst hk';rw[at?_set_same hlk]at g1;cases g1;refine .inr ⟨by rw[r6];exact hs.bound l b hb,hs.own l b hb (by rw[hl];trivial),?_⟩;rw[hobK];exact⟨c',ce,r2,by rw[r3,hlen,qAD];exact hle,hlens,fun i j hi hj=>(hrels i j hi hj).mono hevo hext hp⟩
   ·by_cases hl':l'=l
    ·subst hl';rw[hobL]at g2;exact g2.elim
    ·rw[at?_set_other (qAZ hk')]at g1;rw[hobO l' hk' hl']at g2⊢;refine .inl ⟨g1,rfl,r5 b' fun eb=>?_⟩;subst eb;exact hl' (hs.apart l' l b' g1 hb g2 (by rw[hl];trivial))
  ·intro l1 l2 b' g1 g2 g3 g4;by_cases e1:l1=k<;>by_cases e2:l2=k
   ·rw[e1,e2]
   ·subst e1;rw[at?_set_same hlk]at g1;cases g1;rw[at?_set_other (qAZ e2)]at g2;by_cases hl':l2=l
    ·subst hl';rw[hobL]at g4;exact g4.elim
    ·rw[hobO l2 e2 hl']at g4;exact(hl' (hs.apart l2 l b g2 hb g4 (by rw[hl];trivial))).elim
   ·subst e2;rw[at?_set_same hlk]at g2;cases g2;rw[at?_set_other (qAZ e1)]at g1;by_cases hl':l1=l
    ·subst hl';rw[hobL]at g3;exact g3.elim
    ·rw[hobO l1 e1 hl']at g3;exact(hl' (hs.apart l1 l b g1 hb g3 (by rw[hl];trivial))).elim
   ·rw[at?_set_other (qAZ e1)]at g1;rw[at?_set_other (qAZ e2)]at g2;refine hs.apart l1 l2 b' g1 g2 ?_ ?_
    ·by_cases hl':l1=l
     ·subst hl';rw[hl];trivial
     ·rwa[hobO l1 e1 hl']at g3
    ·by_cases hl':l2=l
     ·subst hl';rw[hl];trivial
     ·rwa[hobO l2 e2 hl']at g4
  ·intro l' b' g1;rw[r6];by_cases hk':l'=k
   ·subst hk';rw[at?_set_same hlk]at g1;cases g1;exact hs.bound l b hb
   ·rw[at?_set_other (qAZ hk')]at g1;exact hs.bound l' b' g1
  ·intro l' g1;by_cases hk':l'=k
   ·subst hk';rw[hobK]at g1;cases g1
   ·by_cases hl':l'=l
    ·subst hl';rw[hobL]at g1;cases g1
    ·rw[hobO l' hk' hl']at g1;rw[at?_set_other (qAZ hk')];exact hs.resv l' g1
  ·intro b' hb';refine r5 b' fun eb=>?_;subst eb;exact hs.own l b' hb (by rw[hl];trivial) hb'
 refine⟨_,κ.set k (some b),w',hrun,?_⟩;rw[show es.length+ys.length=(es++ys).length from hlen.symm];exact hsim.aI d (.psl (by rw[hlen];exact hroom) (by rw[hlen];exact hlim) ⟨rfl,.inr ⟨b,c',ce,at?_set_same hlk,rfl,r2,by rw[r3];exact hcs⟩⟩)
theorem Ym{P:Program}{o:Oper}{s:ASt}{args:Array Operand}{argTypes:Array TypeId}{x y:Operand}{t t2 k l e sz by_:Nat}{es es0 ys:List (List AV)}{tag:Tag}(ho:o.op=.call {callee:=.builtin .append,args,argTypes})
  (ha:args.toList=[x,y]) (ht:argTypes.toList=[t,t2]) (he:kT P t=some (e,sz,by_)) (h2:aV.isSliceT P t2=true) (hx:bC s.tmps x=.psl l sz es.length) (hy:bC s.tmps y=.slice ys tag)
  (hl:obj? s.heap l=.arr sz es0) (hes:es=es0.take es.length) (hk:dA (obj? s.heap k)=true) (hb:(es.length+ys.length)*by_≤140737488355328) (hlim:es.length+ys.length≤140737488355328) (h1:es.all (bX sz)=true) (h3:ys.all (bX sz)=true):
  tu P o s (s.wr (.obj l .dead:: .obj k (.arr sz (es++ys))::aI o.dst (.psl k sz (es++ys).length))):=
 mF fun C κ a w hs=>by
  have ea:args=#[x,y]:=by rw[←qAG (xs:=args),ha]
  have et:argTypes=#[t,t2]:=by rw[←qAG (xs:=argTypes),ht]
  subst ea et;have hrx:=hs.ev x;rw[hx]at hrx;have hry:=hs.ev y;rw[hy]at hry;have hexec:∀(v:Value) (w':World),(Builtin.append_ #[t,t2] o.type #[a.eval x,a.eval y]).run P w=.ok v w'→(execOp a.eval o).run P w=.ok (.value v) w':=fun v w' h=>by
   simp[execOp,ho,resolve,invoke,builtin,h]
  have hlk:l≠k:=fun e=>by subst e;rw[hl]at hk;cases hk
  have hs1:=hs.kill l;have hev:Evo (aO C.aN κ s.heap) w w:=Evo.refl _ _;have hry1:Rel w κ (aO C.aN κ (s.setObj l .dead).heap) (.slice ys tag) (a.eval y):=hry.mono hev (bV.refl _) (fun x o h _=>QS x o h);have hk1:dA (obj? (s.setObj l .dead).heap k)=true:=by simp only[ASt.setObj];rw[obj?_set_other hlk];exact hk
  obtain⟨ad,cap,hax,hcap,hlim0,htag⟩:∃ad cap,a.eval x=.slice ad es.length cap∧es.length≤cap∧es.length≤140737488355328∧Ma w κ ad cap sz (.tip l sz):=by
   generalize a.eval x=ux at hrx;cases hrx with
   |psl g1 g2 g3=>exact⟨_,_,rfl,g1,g2,g3⟩
  obtain⟨_,htag⟩:=htag;have hrx1:Rel w κ (aO C.aN κ (s.setObj l .dead).heap) (.slice es .shared) (a.eval x):=by
   rw[hax];rcases htag with⟨rfl,rfl⟩|⟨b,c,ce,t1,rfl,t3,t4⟩
   ·have hes0:es=[]:=qAz.1 (by omega);rw[hes0];exact .slice (es:=[]) 0 0 sz (fun _ _=>undef) (fun i h=>by cases h) (fun h=>(h rfl).elim) (qAV _) (by simp) (fun i j h=>by cases h) (fun i j h=>by cases h) (fun i j h=>by cases h) trivial
   ·have hold:=hs.obj l b t1 (by rw[hl];trivial);rw[hl]at hold;obtain⟨c0,ce0,q1,q2,q3,q4⟩:=hold;rw[t3]at q1;cases q1;have hlt0:∀i,i<es.length→i<es0.length∧es.getD i []=es0.getD i []:=fun i hi=>by
     have h5:i<(es0.take es.length).length:=by rw[←hes];exact hi
     simp only[qBd]at h5;refine⟨by omega,?_⟩;rw[hes];simp only[List.getD,qAW,if_pos hi]
    refine .slice b 0 sz (fun i j=>c.getD (i*sz+j) undef) (fun i hi=>(iD h1 i hi).1) (fun _=>rfl) hcap (by omega) ?_ ?_ ?_ trivial
    ·rintro i j hi hj (hp|⟨l',g1,g2⟩)
     ·exact hs.own l b t1 (by rw[hl];trivial) (hs.pvold _ _ hp)
     ·simp only[ASt.setObj]at g2;by_cases e:l=l'
      ·subst e;have hll:l<s.heap.length:=by rw[←hs.klen];exact lt_of_at? t1
       rw[obj?_set_same hll]at g2;exact g2.elim
      ·rw[obj?_set_other e]at g2;exact e (hs.apart l l' b t1 g1 (by rw[hl];trivial) (afy g2))
    ·intro i j hi hj;have h2:i*sz+j<c.size:=qAq (sG (hlt0 i hi).1 hj) q2;simp[World.cell?,t3,Array.getD,h2]
    ·intro i j hi hj;rw[(hlt0 i hi).2];exact(q4 i j (hlt0 i hi).1 hj).mono hev (bV.refl _) (fun x o h _=>QS x o h)
  have hgrow:(∀ad n cap,a.eval x=.slice ad n cap→cap<es.length+ys.length)→∃u κ' w',(execOp a.eval o).run P w=.ok (.value u) w'∧
    Sim C κ' (s.wr (.obj l .dead:: .obj k (.arr sz (es++ys))::aI o.dst (.psl k sz (es++ys).length))) (a.put o.dst u) w':=fun hroom=>by
   obtain⟨v,κ',w',h4,h5⟩:=ai1 (P:=P) (ty:=o.type) hs1 hk1 hrx1 hry1 he h2 hb hlim h1 h3 hroom o.dst;exact⟨v,κ',w',hexec _ _ h4,h5⟩
  by_cases hroom:cap<es.length+ys.length
  ·exact hgrow fun ad' n' cap' hu=>by rw[hax]at hu;cases hu;exact hroom
  ·rcases htag with⟨rfl,rfl⟩|⟨b,c,ce,t1,rfl,t3,t4⟩
   ·have hes1:es=[]:=qAz.1 (by omega);have hys:ys=[]:=qAz.1 (by omega);obtain⟨ad2,cap2,e2,_,_⟩:=hry.jL;obtain⟨hu,i,z,hi,hsz,hby,hz,hzs⟩:=mX he;obtain⟨el2,hu2⟩:=qE h2;obtain⟨hres,hlt⟩:=vT hk1;have hl0:es.length=0:=by rw[hes1];rfl
    have hy0:ys.length=0:=by rw[hys];rfl
    refine⟨.slice none 0 0,κ,w,hexec _ _ ?_,?_⟩
    ·rw[hax,e2,hl0,hy0];have hfc:(Builtin.firstCells i.size 0 (.slice ad2 0 cap2)).run P w=.ok #[] w:=by cases ad2<;>simp[Builtin.firstCells,loadCells,loadCellsFrom]
     have hsize:∀w:World,(sizeOf e).run P w=.ok i.size w:=fun w=>by simp[sizeOf,typeInfo,hi]
     simp[Builtin.append_,run_underlying hu,run_underlying hu2,hsize,Builtin.lenOf,hfc]
    ·have hsim:Sim C κ ((s.setObj l .dead).setObj k (.arr sz [])) a w:=by
      have hnone:=hs1.resv k hres;have hne:∀l' b,at? κ l'=some b→k≠l':=fun l' b hb e=>by subst e;rw[hnone]at hb;cases hb
      refine hs1.step (H':=(s.setObj l .dead).heap.set k (.arr sz [])) (Evo.refl _ _) (bV.refl _) (by simp[hs1.klen]) ?_ (fun l' b h1 h2=>.inl ⟨h1,obj?_set_other (hne l' b h1),rfl⟩)
       (fun l1 l2 b g1 g2 g3 g4=>hs1.apart l1 l2 b g1 g2 (by rwa[obj?_set_other (hne l1 b g1)]at g3) (by rwa[obj?_set_other (hne l2 b g2)]at g4)) hs1.bound ?_ (fun _ _=>rfl) rfl rfl rfl
      ·rintro b o (hb|⟨l',g1,g2⟩) _
       ·exact .inl hb
       ·rw[obj?_set_other (hne l' b g1)]at g2;exact .inr ⟨l',g1,g2⟩
      ·intro l' hl';by_cases e:k=l'
       ·subst e;exact hnone
       ·rw[obj?_set_other e]at hl';exact hs1.resv l' hl'
     have:=hsim.aI o.dst (v:=.psl k sz 0) (u:=.slice none 0 0) (.psl (qAc _) (by omega) ⟨rfl,.inl ⟨rfl,rfl⟩⟩);rw[hes1,hys];exact this
   ·rw[hax]at hexec;obtain⟨v,κ',w',h4,h5⟩:=ady (P:=P) (ty:=o.type) hs hk hcap t1 t3 t4 hl hes hry he h2 hlim h1 h3 (by omega) o.dst;exact⟨v,κ',w',hexec _ _ h4,h5⟩
theorem aa9{P:Program}{o:Oper}{s:ASt}{t k e sz by_:Nat}{x y:Operand}{kl kc:IntKind}{l c:Int}{z:List AV}(ho:o.op=.makeSlice t x y)(he:kT P t=some (e,sz,by_))(hz:kU P e=some z)(hx:bC s.tmps x=.int kl l)(hy:bC s.tmps y=.int kc c)
  (hk:dA (obj? s.heap k)=true) (h0:0≤l) (hlc:l≤c) (hb:(by_:Int)*c≤281474976710656) (hc:c≤140737488355328) (hzl:z.length=sz):tu P o s (s.wr (.obj k (.arr sz (List.replicate l.toNat z))::aI o.dst (.psl k sz l.toNat))):=
 mF fun C κ a w hs=>by
  obtain⟨hut,i,zv,hi,hsz,hby,hzz,hzs⟩:=mX he;have hx1:=hs.ev x;have hy1:=hs.ev y;rw[hx]at hx1;rw[hy]at hy1;generalize hux:a.eval x=ux at hx1;generalize huy:a.eval y=uy at hy1;have hrun:=run_make (P:=P) w t e i zv hut hi hzz kl kc l c h0 hlc (by rw[hby];exact hb) (by omega);have ez:z=zv.cells.toList.map ofConst:=by
   have:=hz;simp only[kU]at this
   grind
  obtain⟨κ',hsim⟩:=Xn hs hk (es:=List.replicate l.toNat z) (c:=madeCells zv.cells (c.toNat*i.size)) (e:=e) (cap:=c.toNat) (sz:=sz)
   (fun i hi=>by simp at hi;simp[hi,hzl]) (by simp;omega) (by simp;omega) (by rw[size_madeCells,hsz];exact qAc _)
   (fun j m hj hm=>by
    simp at hj;have e1:(List.replicate l.toNat z).getD j []=z:=by simp[hj]
    have hlt:j*sz+m<c.toNat*i.size:=by
     have:(j+1)*sz≤c.toNat*sz:=qAH _ (by omega)
     grind
    have hms:(j*sz+m)%zv.cells.size=m:=by
     rw[hzs,qBA,qCN,qBU hm]
    have e2:(madeCells zv.cells (c.toNat*i.size)).getD (j*sz+m) undef=zv.cells.getD m undef:=by
     have hm':m<zv.cells.size:=by rw[hzs];exact hm
     simp only[madeCells,qAh,Array.getElem?_map,Array.getElem?_range,hlt,if_true,qAt,hms];simp[hm']
    rw[e1,e2,ez];have:(zv.cells.toList.map ofConst).getD m .unk=ofConst (zv.cells.getD m undef):=by
     simp_all
    rw[this];exact uO _) o.dst
  refine⟨_,κ',_,?_,by simpa using hsim⟩;cases hx1;cases hy1;simp only[execOp,ho,hux,huy];simp[hrun]
theorem Rel.sO{w:World}{κ:bg}{pv:bB}{x:AV}{v:Value}(h:Rel w κ pv x v):Rel w κ pv (sO x) v:=by
 unfold Abs.sO;split
 ·rename_i cs;obtain⟨vs,e,h1,h2⟩:=h.af9;rw[e];refine .agg (by simpa using h1) fun j hj=>?_;rw[qAo]at hj;rw[QA];exact(h2 j hj).shr
 ·exact h.shr
theorem Qr(s t:List UInt8):((⟨s.toArray⟩:ByteArray)==⟨t.toArray⟩)=(s==t):=by
 show((ByteArray.mk s.toArray).data==(ByteArray.mk t.toArray).data)=(s==t);simp
section
variable {P:Program}{w:World}{κ:bg}{pv:bB}
theorem findNow_spec(s:List UInt8):∀(l:List MapEntry) (es:List (List UInt8×AV)) (i:Nat),l.length=es.length→
  (∀j,j<es.length→(l.getD j default).key=.string ⟨((es.getD j ([],.unk)).1).toArray⟩∧Rel w κ pv (es.getD j ([],.unk)).2 (l.getD j default).val)→
  (match rH es s with
   |some v=>∃n x,Instr.findNow .string (.string ⟨s.toArray⟩) l i=some (some (i+n,x))∧Rel w κ pv v x∧n<l.length∧(l.getD n default).key=.string ⟨s.toArray⟩∧(∀y,CK es s y=es.set n (s,y))
   |none=>Instr.findNow .string (.string ⟨s.toArray⟩) l i=some none∧∀y,CK es s y=es++[(s,y)]):=by
 intro l
 induction l with
 |nil=>
  intro es i hl _;cases es with
  |nil=>exact⟨rfl,fun y=>rfl⟩
  |cons=>simp at hl
 |cons m l ih=>
  intro es i hl h;cases es with
  |nil=>simp at hl
  |cons p es=>
   obtain⟨k,v⟩:=p;have h0:=h 0 (by simp);simp only[List.getD,qAp,qAi]at h0;obtain⟨h01,h02⟩:=h0;by_cases hk:k=s
   ·subst hk;have e:rH ((k,v)::es) k=some v:=by simp[rH]
    rw[e];refine⟨0,m.val,?_,h02,by simp,by simpa using h01,fun y=>by simp[CK]⟩;have hb:((⟨k.toArray⟩:ByteArray)==⟨k.toArray⟩)=true:=by rw[Qr];simp
    simp only[Instr.findNow,h01,Instr.sameNow,hb,qAP]
   ·have e:rH ((k,v)::es) s=rH es s:=by simp[rH,qCq,hk]
    have hb:((⟨s.toArray⟩:ByteArray)==⟨k.toArray⟩)=false:=by rw[Qr];simpa using fun e=>hk e.symm
    have ef:Instr.findNow .string (.string ⟨s.toArray⟩) (m::l) i=Instr.findNow .string (.string ⟨s.toArray⟩) l (i+1):=by
     simp only[Instr.findNow,h01,Instr.sameNow,hb]
    have:=ih es (i+1) (by simpa using hl) (fun j hj=>by have:=h (j+1) (by simpa using hj);simpa[List.getD]using this);rw[e,ef];cases hf:rH es s with
    |none=>
     rw[hf]at this;refine⟨this.1,fun y=>?_⟩;simp[CK,hk,this.2 y]
    |some v'=>
     rw[hf]at this;obtain⟨n,x,g1,g2,g3,g4,g5⟩:=this;refine⟨n+1,x,by rw[g1];simp;omega,g2,by simpa using g3,by simpa[List.getD]using g4,fun y=>?_⟩;simp[CK,hk,g5 y]
theorem OT{t e:Nat}(h:rU P t=some e):∃k,P.underlying t=some (.map k e)∧P.underlying k=some .string:=by
 unfold rU at h
 grind
theorem run_checkKey{k:Nat}{b:Bool}{s:ByteArray}(hk:P.underlying k=some .string):(Instr.checkKey b 10000 k (.string s)).run P w=.ok () w:=by
 have h:∀n,(Instr.checkKey b (n+1) k (.string s)).run P w=.ok () w:=fun n=>by simp[Instr.checkKey,run_underlying hk]
 exact h 9999
theorem ahR(v:Value):Rel w κ pv (adU v) v:=by
 unfold adU;split
 ·rename_i cs;have e:cs=cs.toList.toArray:=by simp
  refine .agg (by simp) fun j hj=>?_;have:(List.map ofConst cs.toList.toArray.toList).getD j .unk=ofConst (cs.toList.getD j undef):=by
   grind
  rw[this];exact uO _
 ·exact uO _
theorem aeV{t:Nat}{z:AV}(h:EP P t=some z):∃zv:Value,(∀w:World,(zeroValue t).run P w=.ok zv w)∧∀(w:World) (κ:bg) (pv:bB),Rel w κ pv z zv:=by
 unfold EP at h;cases hi:P.info? t with
 |none=>rw[hi]at h;cases h
 |some i=>
  rw[hi]at h;simp only[qAb]at h;cases hz:i.zero with
  |none=>rw[hz]at h;cases h
  |some zv=>
   rw[hz]at h;simp at h;subst h;exact⟨zv,fun w=>by simp[zeroValue,typeInfo,hi,hz],fun w κ pv=>ahR zv⟩
end
theorem Sim.map{C:Ctx}{κ:bg}{s:ASt}{a:Act}{w:World}(h:Sim C κ s a w){l b:Nat}{es:List (List UInt8×AV)}(hl:at? κ l=some b)(ho:obj? s.heap l=.mp es):
  ∃ms clock,w.heap[b]? =some (Obj.map ms clock)∧ms.size=es.length∧aif ms clock (es.map (·.1))∧
   ∀j,j<es.length→(ms.toList.getD j default).key=.string ⟨((es.getD j ([],.unk)).1).toArray⟩∧Rel w κ (aO C.aN κ s.heap) (es.getD j ([],.unk)).2 (ms.toList.getD j default).val:=by
 have hr:=h.obj l b hl (by rw[ho];trivial);rw[ho]at hr;obtain⟨ms,cl,h1,h2,h3,h4⟩:=hr;refine⟨ms,cl,h1,h2,h3,fun j hj=>?_⟩
 simp_all
theorem ag5{P:Program}{C:Ctx}{κ:bg}{s:ASt}{a:Act}{w:World}(h:Sim C κ s a w){t e l b:Nat}{es:List (List UInt8×AV)}{k:List UInt8}{z:AV}{ok:Bool}(ht:rU P t=some e)(hl:at? κ l=some b)(ho:obj? s.heap l=.mp es)
  (hz:EP P e=some z):∃u,(Instr.lookup t (.map (some b)) (.string ⟨k.toArray⟩) ok).run P w=.ok u w∧Rel w κ (aO C.aN κ s.heap) (zA (rH es k) ok z) u:=by
 obtain⟨ms,cl,h1,h2,h3,h4⟩:=h.map hl ho;obtain⟨kt,hu,hk⟩:=OT ht;obtain⟨zv,z1,z2⟩:=aeV hz;have hg:(getObj b).run P w=.ok (.map ms cl) w:=by simp[getObj,Sem.run,h1]
 have hf:=findNow_spec (w:=w) (κ:=κ) (pv:=aO C.aN κ s.heap) k ms.toList es 0 (by simpa using h2) h4;have htup:∀v x b',Rel w κ (aO C.aN κ s.heap) v x→Rel w κ (aO C.aN κ s.heap) (.tup [v,.bool b']) (.tuple #[x,.bool b']):=fun v x b' hv=>by
  have:=Rel.tup (w:=w) (κ:=κ) (pv:=aO C.aN κ s.heap) (cs:=[v,.bool b']) (vs:=[x,.bool b']) rfl (fun j hj=>by
   match j,hj with
   |0,_=>simpa[List.getD]using hv
   |1,_=>simpa[List.getD]using Rel.bool b')
  grind
 cases hfa:rH es k with
 |none=>
  rw[hfa]at hf;cases ok
  ·exact⟨zv,by simp[Instr.lookup,run_underlying hu,hg,run_checkKey hk,Instr.findKey,run_underlying hk,hf.1,z1],z2 _ _ _⟩
  ·exact⟨.tuple #[zv,.bool false],by simp[Instr.lookup,run_underlying hu,hg,run_checkKey hk,Instr.findKey,run_underlying hk,hf.1,z1],htup _ _ _ (z2 _ _ _)⟩
 |some v=>
  rw[hfa]at hf;obtain⟨n,x,g1,g2,_⟩:=hf;cases ok
  ·exact⟨x,by simp[Instr.lookup,run_underlying hu,hg,run_checkKey hk,Instr.findKey,run_underlying hk,g1],g2⟩
  ·exact⟨.tuple #[x,.bool true],by simp[Instr.lookup,run_underlying hu,hg,run_checkKey hk,Instr.findKey,run_underlying hk,g1],htup _ _ _ g2⟩
theorem Sim.akn{C:Ctx}{κ:bg}{s:ASt}{a:Act}{w:World}(h:Sim C κ s a w){l b:Nat}{es es':List (List UInt8×AV)}{ms ms':Array MapEntry}{cl cl':Nat}(hl:at? κ l=some b)(ho:obj? s.heap l=.mp es)(hm:w.heap[b]? =some (Obj.map ms cl))
  (h2:ms'.size=es'.length) (h3:aif ms' cl' (es'.map (·.1)))
  (h4:∀j,j<es'.length→(ms'.getD j default).key=.string ⟨((es'.getD j ([],.unk)).1).toArray⟩∧Rel w κ (aO C.aN κ s.heap) (es'.getD j ([],.unk)).2 (ms'.getD j default).val):
  Sim C κ (s.setObj l (.mp es')) a {w with heap:=w.heap.setIfInBounds b (.map ms' cl')}:=by
 have hll:l<s.heap.length:=by rw[←h.klen];exact lt_of_at? hl
 have hbs:=h.bound l b hl;have hne:∀x:Nat,x≠b→(w.heap.setIfInBounds b (Obj.map ms' cl'))[x]? =w.heap[x]?:=fun x hx=>qBM (qAZ hx);have hevo:Evo (aO C.aN κ s.heap) w {w with heap:=w.heap.setIfInBounds b (.map ms' cl')}:=by
  refine⟨by simp,fun x o y _ hc=>?_,fun x c e z hx=>?_⟩
  ·have hxb:x≠b:=fun e=>by subst e;simp[World.cell?,hm]at hc
   simp only[World.cell?]at hc⊢
   grind
  grind
 have hp:∀x o,aO C.aN κ (s.heap.set l (.mp es')) x o→x<w.heap.size→aO C.aN κ s.heap x o:=by
  rintro x o (hx|⟨l',h1',h2'⟩) _
  ·exact .inl hx
  ·by_cases e:l=l'
   ·subst e;exact .inr ⟨l,h1',by rw[ho];trivial⟩
   ·rw[obj?_set_other e]at h2';exact .inr ⟨l',h1',h2'⟩
 refine h.step (H':=s.heap.set l (.mp es')) hevo (bV.refl _) (by simp[h.klen]) hp ?_ ?_ ?_ ?_ ?_ rfl rfl rfl
 ·intro l' b' h1' h2';by_cases e:l=l'
  ·subst e;rw[hl]at h1';cases h1';refine .inr ⟨by simpa using hbs,h.own l b hl (by rw[ho];trivial),?_⟩;rw[obj?_set_same hll];exact⟨ms',cl',by simp[hbs],h2,h3,fun j hj=>⟨(h4 j hj).1,(h4 j hj).2.mono hevo (bV.refl _) hp⟩⟩
  ·rw[obj?_set_other e]at h2'⊢;refine .inl ⟨h1',rfl,hne b' fun eb=>?_⟩;subst eb;exact e (h.apart l l' b' hl h1' (by rw[ho];trivial) h2')
 ·intro l1 l2 b' h1' h2' h3' h4';refine h.apart l1 l2 b' h1' h2' ?_ ?_
  ·by_cases e:l=l1
   ·subst e;rw[ho];trivial
   ·rwa[obj?_set_other e]at h3'
  ·by_cases e:l=l2
   ·subst e;rw[ho];trivial
   ·rwa[obj?_set_other e]at h4'
 ·intro l' b' hb';simpa using h.bound l' b' hb'
 ·intro l' hl';by_cases e:l=l'
  ·subst e;rw[obj?_set_same hll]at hl';cases hl'
  ·rw[obj?_set_other e]at hl';exact h.resv l' hl'
 ·intro b' hb';refine hne b' fun eb=>?_;subst eb;exact h.own l b' hl (by rw[ho];trivial) hb'
theorem aaO{P:Program}{C:Ctx}{κ:bg}{s:ASt}{a:Act}{w:World}(h:Sim C κ s a w){t e l b:Nat}{es:List (List UInt8×AV)}{k:List UInt8}{v:AV}{u:Value}(ht:rU P t=some e)(hl:at? κ l=some b)(ho:obj? s.heap l=.mp es)
  (hv:Rel w κ (aO C.aN κ s.heap) v u) (hlim:es.length<140737488355328) (hkl:k.length≤9223372036854775807):∃w',(Instr.mapUpdate t (.map (some b)) (.string ⟨k.toArray⟩) u).run P w=.ok () w'∧Sim C κ (s.setObj l (.mp (CK es k v))) a w':=by
 obtain⟨ms,cl,h1,h2,h3,h4⟩:=h.map hl ho;obtain⟨kt,hu,hk⟩:=OT ht;have hg:(getObj b).run P w=.ok (.map ms cl) w:=by simp[getObj,Sem.run,h1]
 have hset:∀o,(setObj b o).run P w=.ok () {w with heap:=w.heap.setIfInBounds b o}:=fun o=>by simp[setObj,Sem.run,h1]
 have hf:=findNow_spec (w:=w) (κ:=κ) (pv:=aO C.aN κ s.heap) k ms.toList es 0 (by simpa using h2) h4;cases hfa:rH es k with
 |none=>
  rw[hfa]at hf;refine⟨{w with heap:=w.heap.setIfInBounds b (.map (ms.push {key:=.string ⟨k.toArray⟩,val:=u,born:=cl}) (cl+1))},?_,?_⟩
  ·simp[Instr.mapUpdate,run_underlying hu,hg,run_checkKey hk,Instr.findKey,run_underlying hk,hf.1,hset]
  ·rw[hf.2 v];have hnk:∀p∈es,p.1≠k:=fun p hp e=>by
    have:=List.find?_eq_none.1 (Option.map_eq_none_iff.1 hfa) p hp;simp[e]at this
   refine h.akn hl ho h1 (by simp[h2]) ⟨by simp;omega,MapKept.stamped_push h3.2.1 fun x hx e=>?_,fun y hy=>?_⟩ fun j hj=>?_
   ·obtain⟨j,hj⟩:=qAL hx;have hjl:j<es.length:=by have:=(qAk.1 hj).1;simp at this;omega
    have h5:=(h4 j hjl).1;rw[List.getD,hj,qAi,e]at h5;have h6:es.getD j ([],.unk)∈es:=by rw[List.getD,qAe hjl];exact qBp _
    refine hnk _ h6 ?_;have h7:=congrArg (fun v=>match v with|Value.string s=>s.data.toList|_=>[]) h5
    simpa using h7.symm
   ·simp only[qBs,qAA,qAM,qBn,List.mem_singleton]at hy;rcases hy with hy|rfl
    ·exact h3.2.2 y hy
    ·exact hkl
   simp only[qAl,qAy]at hj;by_cases hlt:j<es.length
   ·have e1:(es++[(k,v)]).getD j ([],.unk)=es.getD j ([],.unk):=by simp[List.getD,qAf hlt]
    have e2:(ms.push {key:=.string ⟨k.toArray⟩,val:=u,born:=cl}).getD j default=ms.toList.getD j default:=by
     simp[qAh,List.getD,Array.getElem?_push,show j≠ms.size by omega]
    rw[e1,e2];exact h4 j hlt
   ·obtain rfl:j=es.length:=by omega
    have e1:(es++[(k,v)]).getD es.length ([],.unk)=(k,v):=by simp[List.getD]
    have e2:(ms.push {key:=.string ⟨k.toArray⟩,val:=u,born:=cl}).getD es.length default={key:=.string ⟨k.toArray⟩,val:=u,born:=cl}:=by
     simp[qAh,←h2]
    rw[e1,e2];exact⟨rfl,hv⟩
 |some v0=>
  rw[hfa]at hf;obtain⟨n,x,g1,_,g3,g4,g5⟩:=hf;simp only[qBK]at g3;simp only[qAw]at g1;have hkey:((ms[n]?).map (·.key)).getD (.string ⟨k.toArray⟩)=.string ⟨k.toArray⟩:=by
   rw[qBe g3];simp only[List.getD,qCi,qBe g3,qAi]at g4;simpa using g4
  have hstay:(Instr.keyThatStays (.string ⟨k.toArray⟩) (.string ⟨k.toArray⟩)).run P w=.ok (.string ⟨k.toArray⟩) w:=by
   have hb:((⟨k.toArray⟩:ByteArray)==⟨k.toArray⟩)=true:=by rw[Qr];simp
   simp[Instr.keyThatStays,Instr.sameBits,hb]
  refine⟨{w with heap:=w.heap.setIfInBounds b (.map (ms.modify n fun e=>{e with key:=.string ⟨k.toArray⟩,val:=u}) cl)},?_,?_⟩
  ·simp[Instr.mapUpdate,run_underlying hu,hg,run_checkKey hk,Instr.findKey,run_underlying hk,g1,hkey,hstay,hset]
  ·rw[g5 v];refine h.akn hl ho h1 (by simp[h2]) ⟨by simp;omega,MapKept.stamped_modify h3.2.1 n _ (fun _ _=>rfl) (fun x _ hx=>?_),fun y hy=>?_⟩ fun j hj=>?_
   ·rw[qBe g3,Option.some.injEq]at hx;simp only[List.getD,qCi,qBe g3,qAi,hx]at g4;exact g4.symm
   ·rw[List.map_set]at hy;rcases List.mem_or_eq_of_mem_set hy with hy|rfl
    ·exact h3.2.2 y hy
    ·exact hkl
   simp only[qBc]at hj;by_cases hjn:n=j
   ·subst hjn;have e1:(es.set n (k,v)).getD n ([],.unk)=(k,v):=iw hj;have e2:(ms.modify n fun e=>{e with key:=.string ⟨k.toArray⟩,val:=u}).getD n default={(ms[n])with key:=.string ⟨k.toArray⟩,val:=u}:=by
     rw[qAh,qBq,if_pos rfl,qBe g3];rfl
    rw[e1,e2];exact⟨rfl,hv⟩
   ·have e1:(es.set n (k,v)).getD j ([],.unk)=es.getD j ([],.unk):=j5 hjn;have e2:(ms.modify n fun e=>{e with key:=.string ⟨k.toArray⟩,val:=u}).getD j default=ms.toList.getD j default:=by
     simp[qAh,qBq,hjn,List.getD]
    rw[e1,e2];exact h4 j hj
end
section
open Go
theorem aob{z i i' j j':Nat}(h:i≠i')(hj:j<z)(hj':j'<z):i*z+j≠i'*z+j':=by
 rcases qCw h with hl|hl
 ·have:=qAH z (show i+1≤i' by omega)
  grind
 ·have:=qAH z (show i'+1≤i by omega)
  grind
theorem agv{z i j n:Nat}(hi:i<n)(hj:j<z):i*z+j<n*z:=by
 have:=qAH z (show i+1≤n by omega)
 grind
theorem Sim.arr{C:Ctx}{κ:bg}{s:ASt}{a:Act}{w:World}(h:Sim C κ s a w){l b z:Nat}{es:List (List AV)}(hl:at? κ l=some b)(ho:obj? s.heap l=.arr z es):
  ∃c e,w.heap[b]? =some (Obj.cells c e (0,0))∧es.length*z≤c.size∧(∀i,i<es.length→(es.getD i []).length=z)∧(∀i j,i<es.length→j<z→w.cell? ⟨b,i*z+j,none⟩=some (c.getD (i*z+j) undef))∧
   ∀i j,i<es.length→j<z→Rel w κ (aO C.aN κ s.heap) ((es.getD i []).getD j .unk) (c.getD (i*z+j) undef):=by
 have hr:=h.obj l b hl (by rw[ho];trivial);rw[ho]at hr;obtain⟨c,e,h1,h2,h3,h4⟩:=hr;refine⟨c,e,h1,h2,h3,fun i j hi hj=>?_,h4⟩;have:=agv hi hj;simp[World.cell?,h1,show i*z+j<c.size by omega]
theorem Sim.ajV{C:Ctx}{κ:bg}{s:ASt}{a:Act}{w:World}(h:Sim C κ s a w){l b z i j:Nat}{es:List (List AV)}{v:AV}{u:Value}(hl:at? κ l=some b)(ho:obj? s.heap l=.arr z es)
  (hi:i<es.length) (hj:j<z) (hv:Rel w κ (aO C.aN κ s.heap) v u):Sim C κ (s.setObj l (.arr z (es.set i ((es.getD i []).set j v)))) a (w.setCell ⟨b,i*z+j,none⟩ u):=by
 obtain⟨c,e,h1,h2,h3,_,h4⟩:=h.arr hl ho;have hll:l<s.heap.length:=by rw[←h.klen];exact lt_of_at? hl
 have hlt:=agv hi hj;have hpv:aO C.aN κ s.heap b (i*z+j):=.inr ⟨l,hl,by rw[ho];trivial⟩;have hevo:Evo (aO C.aN κ s.heap) w (w.setCell ⟨b,i*z+j,none⟩ u):=Evo.setCell hpv;have hp:∀x o,aO C.aN κ (s.heap.set l (.arr z (es.set i ((es.getD i []).set j v)))) x o→x<w.heap.size→aO C.aN κ s.heap x o:=by
  rintro x o (hx|⟨l',h1',h2'⟩) _
  ·exact .inl hx
  ·by_cases e:l=l'
   ·subst e;exact .inr ⟨l,h1',by rw[ho];trivial⟩
   ·rw[obj?_set_other e]at h2';exact .inr ⟨l',h1',h2'⟩
 refine h.step (H':=s.heap.set l (.arr z (es.set i ((es.getD i []).set j v)))) hevo (bV.refl _) (by simp[h.klen]) hp ?_ ?_ ?_ ?_ ?_ rfl rfl rfl
 ·intro l' b' h1' h2';by_cases e:l=l'
  ·subst e;rw[hl]at h1';cases h1';refine .inr ⟨by simpa using h.bound l b hl,h.own l b hl (by rw[ho];trivial),?_⟩;rw[obj?_set_same hll];refine⟨_,_,yE h1,by simpa using h2,fun i' hi'=>?_,fun i' j' hi' hj'=>?_⟩
   ·grind
   ·simp only[qBc]at hi';by_cases ei:i=i'
    ·subst ei;rw[iw hi];by_cases ej:j=j'
     ·subst ej;rw[iw (by rw[h3 i hi];exact hj),lY (by omega)];exact hv.mono hevo (bV.refl _) hp
     ·rw[j5 ej,jK (by omega)];exact(h4 i j' hi hj').mono hevo (bV.refl _) hp
    ·rw[j5 ei,jK (aob ei hj hj')];exact(h4 i' j' hi' hj').mono hevo (bV.refl _) hp
  ·rw[obj?_set_other e]at h2'⊢;refine .inl ⟨h1',rfl,qA fun eb=>?_⟩;subst eb;exact e (h.apart l l' b' hl h1' (by rw[ho];trivial) h2')
 ·intro l1 l2 b' h1' h2' h3' h4';refine h.apart l1 l2 b' h1' h2' ?_ ?_
  ·by_cases e:l=l1
   ·subst e;rw[ho];trivial
   ·rwa[obj?_set_other e]at h3'
  ·by_cases e:l=l2
   ·subst e;rw[ho];trivial
   ·rwa[obj?_set_other e]at h4'
 ·intro l' b' hb';simpa using h.bound l' b' hb'
 ·intro l' hl';by_cases e:l=l'
  ·subst e;rw[obj?_set_same hll]at hl';cases hl'
  ·rw[obj?_set_other e]at hl';exact h.resv l' hl'
 ·intro b' hb';refine qA fun eb=>?_;subst eb;exact h.own l b' hl (by rw[ho];trivial) hb'
theorem SI{s:ASt}{l:Nat}{o:AObj}(hll:l<s.heap.length)(ho:obj? s.heap l=o):s.setObj l o=s:=by
 obtain⟨tm,H⟩:=s;simp only[ASt.setObj,ASt.mk.injEq,true_and];apply qCD;intro n;by_cases en:l=n
 ·subst en;simp only[obj?]at ho
  grind
 grind
theorem acw{α:Type}{l:List α}{i:Nat}{d:α}(h:i<l.length):l.set i (l.getD i d)=l:=by simp_all
theorem Sim.ane{P:Program}{C:Ctx}{κ:bg}{a:Act}{l b z i:Nat}(hl:at? κ l=some b):∀(vs:List AV) (us:List Value) (j:Nat) (s:ASt) (w:World) (es:List (List AV)),Sim C κ s a w→obj? s.heap l=.arr z es→
  i<es.length→j+vs.length=z→us.length=vs.length→(∀k,k<vs.length→Rel w κ (aO C.aN κ s.heap) (vs.getD k .unk) (us.getD k undef))→vs.all isScalar=true→
  ∃w',(storeCells ⟨b,i*z,none⟩ us j).run P w=.ok () w'∧Sim C κ (s.setObj l (.arr z (es.set i ((es.getD i []).take j++vs)))) a w':=by
 intro vs
 induction vs with
 |nil=>
  intro us j s w es hs ho hi hjz hul _ _;cases us with
  |nil=>
   refine⟨w,by simp[storeCells],?_⟩;have hll:l<s.heap.length:=by rw[←hs.klen];exact lt_of_at? hl
   obtain⟨c,e,_,_,h3,_,_⟩:=hs.arr hl ho;have e1:(es.getD i []).take j++[]=es.getD i []:=by
    rw[qAK,qCe]
    grind
   rw[e1,acw hi,SI hll ho];exact hs
  |cons=>simp at hul
 |cons v vs ih=>
  intro us j s w es hs ho hi hjz hul hr hsc;cases us with
  |nil=>simp at hul
  |cons u us=>
   simp only[qAv]at hjz hul;simp only[qBD,qAd]at hsc;have hv:=hr 0 (by simp);simp only[List.getD,qAp,qAi]at hv;obtain⟨c,el,h1,h2,h3,h3',h4⟩:=hs.arr hl ho;have hll:l<s.heap.length:=by rw[←hs.klen];exact lt_of_at? hl
   have hst:=hs.ajV hl ho (i:=i) (j:=j) hi (by omega) hv;have hrun:(Go.store ⟨b,i*z+j,none⟩ u).run P w=.ok () (w.setCell ⟨b,i*z+j,none⟩ u):=LU hv hsc.1 (h3' i j hi (by omega)) (by simp[World.frozen?,h1]);have hpv:∀x o,aO C.aN κ (s.setObj l (.arr z (es.set i ((es.getD i []).set j v)))).heap x o→aO C.aN κ s.heap x o:=by
    rintro x o (hx|⟨l',g1,g2⟩)
    ·exact .inl hx
    ·by_cases e:l=l'
     ·subst e;exact .inr ⟨l,g1,by rw[ho];trivial⟩
     ·simp only[ASt.setObj]at g2;rw[obj?_set_other e]at g2;exact .inr ⟨l',g1,g2⟩
   obtain⟨w',h5,h6⟩:=ih us (j+1) _ _ (es.set i ((es.getD i []).set j v)) hst (by simp only[ASt.setObj];exact obj?_set_same hll) (by simpa using hi) (by omega) (by omega)
    (fun k hk=>by
     have:=hr (k+1) (by simpa using hk);simp only[List.getD,qBl]at this;exact this.mono (Evo.setCell (.inr ⟨l,hl,by rw[ho];trivial⟩)) (bV.refl _) (fun x o hx _=>hpv x o hx)) hsc.2
   refine⟨w',by simp[storeCells,yN,hrun,h5],?_⟩;have e:(s.setObj l (.arr z (es.set i ((es.getD i []).set j v)))).setObj l (.arr z ((es.set i ((es.getD i []).set j v)).set i (((es.set i ((es.getD i []).set j v)).getD i []).take (j+1)++vs)))=
     s.setObj l (.arr z (es.set i ((es.getD i []).take j++(v::vs)))):=by
    simp only[ASt.setObj,qDb];congr 2;rw[iw hi];have e1:((es.getD i []).set j v).take (j+1)=(es.getD i []).take j++[v]:=by
     rw[qBG (by rw[qBc,h3 i hi];omega),qCZ,qBZ (by simp;omega)];simp
    rw[e1];simp
   rw[e]at h6;exact h6
theorem Sim.am6{P:Program}{C:Ctx}{κ:bg}{a:Act}{l b z i j0:Nat}(hl:at? κ l=some b):∀(vs:List AV) (us:List Value) (j:Nat) (s:ASt) (w:World) (es:List (List AV)),Sim C κ s a w→obj? s.heap l=.arr z es→
  i<es.length→j0+j+vs.length≤z→us.length=vs.length→(∀k,k<vs.length→Rel w κ (aO C.aN κ s.heap) (vs.getD k .unk) (us.getD k undef))→vs.all isScalar=true→
  ∃w',(storeCells ⟨b,i*z+j0,none⟩ us j).run P w=.ok () w'∧Sim C κ (s.setObj l (.arr z (es.set i ((es.getD i []).take (j0+j)++vs++(es.getD i []).drop (j0+j+vs.length))))) a w':=by
 intro vs
 induction vs with
 |nil=>
  intro us j s w es hs ho hi hjz hul _ _;cases us with
  |nil=>
   refine⟨w,by simp[storeCells],?_⟩;have hll:l<s.heap.length:=by rw[←hs.klen];exact lt_of_at? hl
   have e1:(es.getD i []).take (j0+j)++[]++(es.getD i []).drop (j0+j+([]:List AV).length)=es.getD i []:=by simp
   rw[e1,acw hi,SI hll ho];exact hs
  |cons=>simp at hul
 |cons v vs ih=>
  intro us j s w es hs ho hi hjz hul hr hsc;cases us with
  |nil=>simp at hul
  |cons u us=>
   simp only[qAv]at hjz hul;simp only[qBD,qAd]at hsc;have hv:=hr 0 (by simp);simp only[List.getD,qAp,qAi]at hv;obtain⟨c,el,h1,h2,h3,h3',h4⟩:=hs.arr hl ho;have hll:l<s.heap.length:=by rw[←hs.klen];exact lt_of_at? hl
   have hst:=hs.ajV hl ho (i:=i) (j:=j0+j) hi (by omega) hv;have hrun:(Go.store ⟨b,i*z+j0+j,none⟩ u).run P w=.ok () (w.setCell ⟨b,i*z+(j0+j),none⟩ u):=by
    rw[qBx];exact LU hv hsc.1 (h3' i (j0+j) hi (by omega)) (by simp[World.frozen?,h1])
   have hpv:∀x o,aO C.aN κ (s.setObj l (.arr z (es.set i ((es.getD i []).set (j0+j) v)))).heap x o→aO C.aN κ s.heap x o:=by
    rintro x o (hx|⟨l',g1,g2⟩)
    ·exact .inl hx
    ·by_cases e:l=l'
     ·subst e;exact .inr ⟨l,g1,by rw[ho];trivial⟩
     ·simp only[ASt.setObj]at g2;rw[obj?_set_other e]at g2;exact .inr ⟨l',g1,g2⟩
   obtain⟨w',h5,h6⟩:=ih us (j+1) _ _ (es.set i ((es.getD i []).set (j0+j) v)) hst (by simp only[ASt.setObj];exact obj?_set_same hll) (by simpa using hi) (by omega) (by omega)
    (fun k hk=>by
     have:=hr (k+1) (by simpa using hk);simp only[List.getD,qBl]at this;exact this.mono (Evo.setCell (.inr ⟨l,hl,by rw[ho];trivial⟩)) (bV.refl _) (fun x o hx _=>hpv x o hx)) hsc.2
   refine⟨w',by simp[storeCells,yN,hrun,h5],?_⟩;have e:(s.setObj l (.arr z (es.set i ((es.getD i []).set (j0+j) v)))).setObj l (.arr z ((es.set i ((es.getD i []).set (j0+j) v)).set i (((es.set i ((es.getD i []).set (j0+j) v)).getD i []).take (j0+(j+1))++vs++((es.set i ((es.getD i []).set (j0+j) v)).getD i []).drop (j0+(j+1)+vs.length))))=
     s.setObj l (.arr z (es.set i ((es.getD i []).take (j0+j)++(v::vs)++(es.getD i []).drop (j0+j+(v::vs).length)))):=by
    simp only[ASt.setObj,qDb];congr 2;rw[iw hi];have e1:((es.getD i []).set (j0+j) v).take (j0+(j+1))=(es.getD i []).take (j0+j)++[v]:=by
     rw[←qBx,qBG (by rw[qBc,h3 i hi];omega),qCZ,qBZ (by simp;omega)];simp
    have e2:((es.getD i []).set (j0+j) v).drop (j0+(j+1)+vs.length)=(es.getD i []).drop (j0+j+(v::vs).length):=by
     rw[List.drop_set_of_lt (by omega)];congr 1;simp only[qAv];omega
    rw[e1,e2];simp
   rw[e]at h6;exact h6
theorem aiY{P:Program}{o:Oper}{s:ASt}{t:TypeId}{x:Operand}{l off z i:Nat}{es:List (List AV)}{v:AV}(ho:o.op=.load t x)(hx:bC s.tmps x=.ptr l off)(hl:obj? s.heap l=.arr z es)(hoff:off=i*z)(hi:i<es.length)(h:jI P t (es.getD i [])=some v):
  tu P o s (s.wr (aI o.dst v)):=
 mF fun C κ a w hs=>by
  have hr:=hs.ev x;rw[hx]at hr;obtain⟨b,e,hb⟩:=hr.tN;obtain⟨c,el,h1,h2,h3,h3',h4⟩:=hs.arr hb hl;have hlen:=h3 i hi;obtain⟨y,h5,h6⟩:=Cx (P:=P) (w:=w) (κ:=κ) (pv:=aO C.aN κ s.heap) (b:=b) (off:=off) (cs:=es.getD i []) (fun j=>c.getD (off+j) undef)
   (fun j hj=>by rw[hoff];exact h3' i j hi (by omega)) (fun j hj=>by rw[hoff];exact h4 i j hi (by omega)) h
  exact⟨y,κ,w,by simp[execOp,ho,Instr.loadAt,e,Instr.sureAddr,h5],hs.aI o.dst h6⟩
theorem aiz{P:Program}{o:Oper}{s:ASt}{t:TypeId}{x y:Operand}{l off z i:Nat}{es:List (List AV)}{vs:List AV}(ho:o.op=.store t x y)(hx:bC s.tmps x=.ptr l off)(hy:eD (bC s.tmps y)=some vs)(hl:obj? s.heap l=.arr z es)
  (ht:sizeT P t=some vs.length) (hz:vs.length=z) (hoff:off=i*z) (hi:i<es.length) (hsc:vs.all isScalar=true):
  tu P o s (s.wr (.obj l (.arr z (es.set i vs))::aI o.dst (.tup []))):=
 MB fun C κ a w hs=>by
  have hr:=hs.ev x;rw[hx]at hr;obtain⟨b,e,hb⟩:=hr.tN;obtain⟨h1,h2⟩:=Fg (hs.ev y) hy;subst hoff;obtain⟨w',h3,h4⟩:=Sim.ane (P:=P) (i:=i) hb vs (a.eval y).cells.toList 0 s w es hs hl hi (by omega) (by simpa using h1)
   (fun j hj=>by have:=h2 j hj;simpa[qAh,List.getD]using this) hsc
  refine⟨κ,w',?_,?_⟩
  ·simp[execOp,ho,Instr.storeAt,e,Instr.sureAddr,storeVar,nG ht,h1,h3]
  ·simp at h4;exact h4.aI o.dst jr
theorem aia{P:Program}{o:Oper}{s:ASt}{t:TypeId}{x y:Operand}{l off z i j:Nat}{es:List (List AV)}{vs:List AV}(ho:o.op=.store t x y)(hx:bC s.tmps x=.ptr l off)(hy:eD (bC s.tmps y)=some vs)(hl:obj? s.heap l=.arr z es)
  (ht:sizeT P t=some vs.length) (hoff:off=i*z+j) (hi:i<es.length) (hj:j+vs.length≤z) (hsc:vs.all isScalar=true):
  tu P o s (s.wr (.obj l (.arr z (es.set i ((es.getD i []).take j++vs++(es.getD i []).drop (j+vs.length))))::aI o.dst (.tup []))):=
 MB fun C κ a w hs=>by
  have hr:=hs.ev x;rw[hx]at hr;obtain⟨b,e,hb⟩:=hr.tN;obtain⟨h1,h2⟩:=Fg (hs.ev y) hy;subst hoff;obtain⟨w',h3,h4⟩:=Sim.am6 (P:=P) (i:=i) (j0:=j) hb vs (a.eval y).cells.toList 0 s w es hs hl hi (by omega) (by simpa using h1)
   (fun j hj=>by have:=h2 j hj;simpa[qAh,List.getD]using this) hsc
  refine⟨κ,w',?_,?_⟩
  ·simp[execOp,ho,Instr.storeAt,e,Instr.sureAddr,storeVar,nG ht,h1,h3]
  ·simp only[qAP]at h4;exact h4.aI o.dst jr
end
section
open Go
theorem aef{P:Program}{o:Oper}{s:ASt}{t k e sz by_:Nat}(ho:o.op=.buildSlice t 0 #[])(he:kT P t=some (e,sz,by_))(hk:dA (obj? s.heap k)=true):tu P o s (s.wr (.obj k (.arr sz [])::aI o.dst (.psl k sz 0))):=
 mF fun C κ a w hs=>by
  obtain⟨hut,i,zv',hi,hsz,hby,hzz,hzs⟩:=mX he;obtain⟨κ',hsim⟩:=Xn hs hk (es:=[]) (c:=#[]) (e:=e) (cap:=0) (sz:=sz) (fun i hi=>by simp at hi) (by simp) (by simp) (by simp) (fun i j hi=>by simp at hi) o.dst;refine⟨_,κ',_,?_,hsim⟩;have hsize:(sizeOf e).run P w=.ok sz w:=by simp[sizeOf,typeInfo,hi,hsz]
  simp only[execOp,ho,Instr.buildSlice,Sem.run_bind,run_underlying hut,Result.andThen_ok,hsize];rw[Sem.run_ite,if_neg (by omega)];simp[newRow,Instr.fill,show Array.range 0=#[]from rfl]
theorem ah7{P:Program}{o:Oper}{s:ASt}{t e l:Nat}{m key:Operand}{ok:Bool}{es:List (List UInt8×AV)}{k:List UInt8}{z:AV}(ho:o.op=.lookup t m key ok)(ht:rU P t=some e)(hm:bC s.tmps m=.mapr l)(hk:bC s.tmps key=.str k)
  (hl:obj? s.heap l=.mp es) (hz:EP P e=some z):tu P o s (s.wr (aI o.dst (zA (rH es k) ok z))):=
 mF fun C κ a w hs=>by
  have h1:=hs.ev m;rw[hm]at h1;have h2:=hs.ev key;rw[hk]at h2;obtain⟨b,e1,hb⟩:∃b,a.eval m=.map (some b)∧at? κ l=some b:=by
   generalize a.eval m=u at h1;cases h1;exact⟨_,rfl,‹_›⟩
  obtain⟨u,h3,h4⟩:=ag5 (ok:=ok) (k:=k) hs ht hb hl hz;exact⟨u,κ,w,by simp[execOp,ho,e1,h2.Eh.1,h3],hs.aI o.dst h4⟩
theorem aa4{P:Program}{o:Oper}{s:ASt}{t e l:Nat}{m key x:Operand}{es:List (List UInt8×AV)}{k:List UInt8}(ho:o.op=.mapUpdate t m key x)(ht:rU P t=some e)(hm:bC s.tmps m=.mapr l)(hk:bC s.tmps key=.str k)
  (hl:obj? s.heap l=.mp es) (hlim:es.length<140737488355328):tu P o s (s.wr (.obj l (.mp (CK es k (sO (bC s.tmps x))))::aI o.dst (.tup []))):=
 MB fun C κ a w hs=>by
  have h1:=hs.ev m;rw[hm]at h1;have h2:=hs.ev key;rw[hk]at h2;obtain⟨b,e1,hb⟩:∃b,a.eval m=.map (some b)∧at? κ l=some b:=by
   generalize a.eval m=u at h1;cases h1;exact⟨_,rfl,‹_›⟩
  obtain⟨w',h3,h4⟩:=aaO (k:=k) hs ht hb hl (hs.ev x).sO hlim h2.Eh.2;exact⟨κ,w',by simp[execOp,ho,e1,h2.Eh.1,h3],h4.aI o.dst jr⟩
theorem Vx{P:Program}{k:Nat}{o:Oper}{s:ASt}{rd:List Nat}{ws:List Wr}(h:aV P k o (bC s.tmps) (obj? s.heap)=some (rd,ws)):tu P o s (s.wr ws):=by
 unfold aV at h;split at h
 ·rename_i v hv;simp only[Option.some.injEq,Prod.mk.injEq]at h;obtain⟨_,rfl⟩:=h;exact ab5 hv
 ·split at h
  ·rename_i t x ho;split at h
   ·rename_i l off hx;split at h
    ·rename_i cs hl;cases hv:jI P t (cs.drop off)with
     |none=>rw[hv]at h;cases h
     |some v=>
      rw[hv]at h;simp only[qAt,Option.some.injEq,Prod.mk.injEq]at h;obtain⟨_,rfl⟩:=h;exact alN ho hx hl hv
    ·rename_i z es hl;split at h
     ·rename_i hc;cases hv:jI P t (es.getD (off/z) [])with
      |none=>rw[hv]at h;cases h
      |some v=>
       rw[hv]at h;simp only[qAt,Option.some.injEq,Prod.mk.injEq]at h;obtain⟨_,rfl⟩:=h;exact aiY ho hx hl hc.1 hc.2 hv
     ·cases h
    ·cases h
   ·cases h
  ·rename_i t x y ho;split at h
   ·rename_i l off vs hx hy;split at h
    ·rename_i cs hl;split at h
     ·rename_i hc;simp only[Option.some.injEq,Prod.mk.injEq]at h;obtain⟨_,rfl⟩:=h;exact ajQ ho hx hy hl hc.1 hc.2.1 hc.2.2
     ·cases h
    ·rename_i z es hl;split at h
     ·rename_i hc;simp only[Option.some.injEq,Prod.mk.injEq]at h;obtain⟨_,rfl⟩:=h;exact aiz ho hx hy hl hc.1 hc.2.1 hc.2.2.1 hc.2.2.2.1 hc.2.2.2.2
     ·split at h
      ·rename_i hc;simp only[Option.some.injEq,Prod.mk.injEq]at h;obtain⟨_,rfl⟩:=h;exact aia ho hx hy hl hc.1 (by rw[qBA];exact(qCp off z).symm) hc.2.2.1 hc.2.2.2.1 hc.2.2.2.2
      ·cases h
    ·cases h
   ·cases h
  ·rename_i b t x y t2 ho;cases hv:eqNil P b t (bC s.tmps x) y with
   |none=>rw[hv]at h;cases h
   |some v=>
    rw[hv]at h;simp only[qAt,Option.some.injEq,Prod.mk.injEq]at h;obtain⟨_,rfl⟩:=h;exact ajj ho hv
  ·rename_i t ho;split at h
   ·rename_i hk;cases hz:kU P t with
    |none=>rw[hz]at h;cases h
    |some z=>
     rw[hz]at h;simp only[qAt,Option.some.injEq,Prod.mk.injEq]at h;obtain⟨_,rfl⟩:=h;exact ai5 ho hk hz
   ·cases h
  ·rename_i t x ho;split at h
   ·rename_i hk;cases hx:eD (bC s.tmps x)with
    |none=>rw[hx]at h;cases h
    |some cs=>
     rw[hx]at h;simp only[qAt,Option.some.injEq,Prod.mk.injEq]at h;obtain⟨_,rfl⟩:=h;exact anF ho hk hx
   ·cases h
  ·rename_i t ho;split at h
   ·rename_i hk;simp only[Option.some.injEq,Prod.mk.injEq]at h;obtain⟨_,rfl⟩:=h;exact afA ho hk
   ·cases h
  ·rename_i t len parts ho;split at h
   ·rename_i e sz by_ he;split at h
    ·rename_i z hz;split at h
     ·rename_i hc;cases hf:kR (fun i=>some (i*sz,sz)) ((List.replicate len z).flatten) (parts.toList.map fun p=>(p.1,bC s.tmps p.2))with
      |none=>rw[hf]at h;cases h
      |some cs=>
       rw[hf]at h;simp only[qAt,Option.some.injEq]at h;cases hb:Un len parts.toList z with
       |true=>
        rw[hb]at h;simp only[cond_true,Prod.mk.injEq]at h;obtain⟨_,rfl⟩:=h;obtain⟨rfl,hp⟩:=agP hb;exact aef (by rw[ho,Array.toList_eq_nil_iff.1 hp]) he hc.1
       |false=>
        rw[hb]at h;simp only[cond_false,Prod.mk.injEq]at h;obtain⟨_,rfl⟩:=h;exact YC ho he hz hc.1 hc.2.1 hc.2.2.1 hc.2.2.2 hf
     ·cases h
    ·cases h
   ·cases h
  ·rename_i args argTypes ho;split at h
   ·rename_i x y t t2 ha ht;split at h
    ·rename_i e sz by_ es ys tag he h2 hx hy;split at h
     ·rename_i hc;simp only[Option.some.injEq,Prod.mk.injEq]at h;obtain⟨_,rfl⟩:=h;obtain⟨c1,c2,c3,c4,c5⟩:=hc;subst c2;exact Y0 ho ha ht he h2 hx hy c1 c3 c4 c5
     ·cases h
    ·rename_i e sz by_ es l z ys tag he h2 hx hy;split at h
     ·rename_i n hl;split at h
      ·rename_i hc;simp only[Option.some.injEq,Prod.mk.injEq]at h;obtain⟨_,rfl⟩:=h;obtain⟨c1,c2,c3,c4,c5,c6,c7⟩:=hc;subst c2 c3;exact XV ho ha ht he h2 hx hy hl c1 c4 c5 c6 c7
      ·cases h
     ·cases h
    ·rename_i e sz by_ l z n ys tag he h2 hx hy;split at h
     ·rename_i z' es0 hl;split at h
      ·rename_i hc;simp only[Option.some.injEq,Prod.mk.injEq]at h;obtain⟨_,rfl⟩:=h;obtain⟨c1,c2,c3,c4,c5,c6,c7,c8⟩:=hc;subst c2 c3;have hlen:(es0.take n).length=n:=by simp only[qBd];omega
       have hall:(es0.take n).all (bX z')=true:=by
        rw[qAC]at c7⊢;exact fun x hx=>c7 x (List.mem_of_mem_take hx)
       exact Ym (es:=es0.take n) ho ha ht he h2 (by rw[hlen];exact hx) hy hl (by rw[hlen]) c1 (by rw[hlen];exact c5) (by rw[hlen];exact c6) hall c8
      ·cases h
     ·cases h
    ·rename_i e sz by_ es n ys tag he h2 hx hy;split at h
     ·rename_i hc;simp only[Option.some.injEq,Prod.mk.injEq]at h;obtain⟨_,rfl⟩:=h;obtain⟨c1,c2,c4,c5,c6,c7⟩:=hc;exact Yd ho ha ht he h2 hx c2 hy c1 c4 c5 c6 c7
     ·cases h
    ·cases h
   ·cases h
  ·rename_i t x y ho;split at h
   ·rename_i e sz by_ kl l kc c he hx hy;split at h
    ·rename_i z hz;split at h
     ·rename_i hc;simp only[Option.some.injEq,Prod.mk.injEq]at h;obtain⟨_,rfl⟩:=h;exact aa9 ho he hz hx hy hc.1 hc.2.1 hc.2.2.1 hc.2.2.2.1 hc.2.2.2.2.1 hc.2.2.2.2.2
     ·cases h
    ·cases h
   ·cases h
  ·rename_i t m key ok ho;split at h
   ·rename_i e l k' ht hm hk;split at h
    ·rename_i es z hl hz;simp only[Option.some.injEq,Prod.mk.injEq]at h;obtain⟨_,rfl⟩:=h;exact ah7 ho ht hm hk hl hz
    ·cases h
   ·cases h
  ·rename_i t m key x ho;split at h
   ·rename_i e l k' ht hm hk;split at h
    ·rename_i es hl;split at h
     ·rename_i hlim;simp only[Option.some.injEq,Prod.mk.injEq]at h;obtain⟨_,rfl⟩:=h;exact aa4 ho ht hm hk hl hlim
     ·cases h
    ·cases h
   ·cases h
  ·cases h
end
section
open Go
def dK(g:Nat→Nat):Tag→Tag
 | .tip l z=>.tip (g l) z
 | .shared=>.shared
 | .nils=>.nils
 | .full n=>.full n
mutual
def ren(g:Nat→Nat):AV→AV
 | .ptr l o=>.ptr (g l) o
 | .mapr l=>.mapr (g l)
 | .eptr cs=>.eptr (bD g cs)
 | .slice es t=>.slice (bA g es) (dK g t)
 | .agg cs=>.agg (bD g cs)
 | .tup cs=>.tup (bD g cs)
 | .func f cs=>.func f (bD g cs)
 | .unk=>.unk
 | .int k n=>.int k n
 | .bool b=>.bool b
 | .str s=>.str s
 | .nilp=>.nilp
 | .ifc t v=>.ifc t v
 | .nilFunc=>.nilFunc
 | .yv l=>.yv l
 | .psl l z n=>.psl (g l) z n
 | .flist ns=>.flist (bA g ns)
def bD(g:Nat→Nat):List AV→List AV
 |[]=>[]
 |c::cs=>ren g c::bD g cs
def bA(g:Nat→Nat):List (List AV)→List (List AV)
 |[]=>[]
 |c::cs=>bD g c::bA g cs
end
theorem uX(g:Nat→Nat):∀cs,bD g cs=cs.map (ren g)
 |[]=>rfl
 |c::cs=>by simp[bD,uX g cs]
theorem Jz(g:Nat→Nat):∀es,bA g es=es.map (bD g)
 |[]=>rfl
 |c::cs=>by simp[bA,Jz g cs]
theorem jB(g:Nat→Nat)(cs:List AV):(bD g cs).length=cs.length:=by simp[uX]
theorem kr(g:Nat→Nat)(es:List (List AV)):(bA g es).length=es.length:=by simp[Jz]
theorem iT(g:Nat→Nat)(cs:List AV)(j:Nat):(bD g cs).getD j .unk=ren g (cs.getD j .unk):=by
 rw[uX];simp;cases cs[j]?<;>rfl
theorem pU(g:Nat→Nat)(es:List (List AV))(j:Nat):(bA g es).getD j []=bD g (es.getD j []):=by
 rw[Jz];simp;cases es[j]?<;>rfl
def bN(g:Nat→Nat):AObj→AObj
 | .box cs=>.box (bD g cs)
 | .mp es=>.mp (es.map fun p=>(p.1,ren g p.2))
 | .tip n=>.tip n
 | .dead=>.dead
 | .res=>.res
 | .arr z es=>.arr z (bA g es)
theorem BA(g:Nat→Nat)(o:AObj)(n:Nat):qW (bN g o) n=qW o n:=by cases o<;>rfl
theorem jh(g:Nat→Nat)(o:AObj):live (bN g o)=live o:=by cases o<;>rfl
theorem Rel.vw{w:World}{κ κe:bg}{pv:bB}{g:Nat→Nat}(hg:∀i,at? κe i=at? κ (g i)):∀{y:AV} {v:Value},Rel w κ pv y v→∀x,y=ren g x→Rel w κe pv x v:=by
 intro y v h
 induction h with
 |unk v=>intro x hx;cases x<;>simp[ren]at hx;exact .unk _
 |int h=>intro x hx;cases x<;>simp[ren]at hx;obtain⟨rfl,rfl⟩:=hx;exact .int h
 |bool b=>intro x hx;cases x<;>simp[ren]at hx;subst hx;exact .bool _
 |str h=>intro x hx;cases x<;>simp[ren]at hx;subst hx;exact .str h
 |nilp=>intro x hx;cases x<;>simp[ren]at hx;exact .nilp
 |ifc t v=>intro x hx;cases x<;>simp[ren]at hx;obtain⟨rfl,rfl⟩:=hx;exact .ifc _ _
 |ptr h=>intro x hx;cases x<;>simp[ren]at hx;obtain⟨rfl,rfl⟩:=hx;exact .ptr (by rw[hg];exact h)
 |eptr u h1 h2 _ ih=>
  intro x hx;cases x<;>simp[ren]at hx;subst hx;rw[jB]at h1 h2 ih;exact .eptr u h1 h2 (fun j hj=>ih j hj _ (iT _ _ _))
 |slice b off sz u h1 h2 h3 h3' h4 h5 _ ht ih=>
  intro x hx;cases x<;>simp[ren]at hx;obtain⟨rfl,rfl⟩:=hx;rename_i es t _;rw[kr]at h1 h3 h3' h4 h5 ih⊢;refine .slice b off sz u (fun i hi=>by have:=h1 i hi;rwa[pU,jB]at this) (fun hne=>h2 (fun e=>hne ?_)) h3 h3' h4 h5 (fun i j hi hj=>ih i j hi hj _ (by rw[pU,iT])) ?_
  ·have:=congrArg List.length e;rw[kr]at this;exact qAz.1 (by simpa using this)
  ·cases t with
   |shared=>trivial
   |nils=>exact ht
   |full n=>exact ht
   |tip l z=>
    obtain⟨e1,ht⟩:=ht;refine⟨e1,ht.imp id ?_⟩
    grind
 |agg h1 _ ih=>
  intro x hx;cases x<;>simp[ren]at hx;subst hx;rw[jB]at h1 ih;exact .agg h1 (fun j hj=>ih j hj _ (iT _ _ _))
 |tup h1 _ ih=>
  intro x hx;cases x<;>simp[ren]at hx;subst hx;rw[jB]at h1 ih;exact .tup h1 (fun j hj=>ih j hj _ (iT _ _ _))
 |func h1 _ ih=>
  intro x hx;cases x<;>simp[ren]at hx;obtain⟨rfl,rfl⟩:=hx;rw[jB]at h1 ih;exact .func h1 (fun j hj=>ih j hj _ (iT _ _ _))
 |mapr h=>intro x hx;cases x<;>simp[ren]at hx;subst hx;exact .mapr (by rw[hg];exact h)
 |nilFunc=>intro x hx;cases x<;>simp[ren]at hx;exact .nilFunc
 |yv l=>intro x hx;cases x<;>simp[ren]at hx;subst hx;exact .yv _
 |psl h1 h2 h3=>
  intro x hx;cases x<;>simp[ren]at hx;obtain⟨rfl,rfl,rfl⟩:=hx;refine .psl h1 h2 ?_;obtain⟨e1,ht⟩:=h3;refine⟨e1,ht.imp id ?_⟩;rintro⟨b,c,e,q1,q2⟩;exact⟨b,c,e,by rw[hg];exact q1,q2⟩
 |flnil=>
  intro x hx;cases x<;>simp[ren]at hx;rename_i ns;have:ns=[]:=qAz.1 (by rw[←kr g ns,hx];rfl);subst this;exact .flnil
 |flcons u y h1 h2 h3 _ _ ih1 ih2=>
  intro x hx;cases x<;>simp[ren]at hx;rename_i ns;cases ns with
  |nil=>simp[bA]at hx
  |cons c r=>
   simp only[bA,List.cons.injEq]at hx;obtain⟨rfl,rfl⟩:=hx;rw[jB]at h1 h2 h3 ih1;exact .flcons u y h1 h2 h3 (fun j hj=>ih1 j hj _ (iT _ _ _)) (ih2 _ rfl)
theorem Rel.ren{w:World}{κ κe:bg}{pv:bB}{g:Nat→Nat}(hg:∀i b,at? κe i=some b→at? κ (g i)=some b):∀{x:AV} {v:Value},Rel w κe pv x v→Rel w κ pv (Abs.ren g x) v:=by
 intro x v h
 induction h with
 |unk v=>exact .unk _
 |int h=>exact .int h
 |bool b=>exact .bool _
 |str h=>exact .str h
 |nilp=>exact .nilp
 |ifc t v=>exact .ifc _ _
 |ptr h=>exact .ptr (hg _ _ h)
 |eptr u h1 h2 _ ih=>
  refine .eptr u ?_ ?_ ?_<;>rw[jB]
  ·exact h1
  ·exact h2
  ·intro j hj;rw[iT];exact ih j hj
 |@slice es t a cap b off sz u h1 h2 h3 h3' h4 h5 _ ht ih=>
  have key:=Rel.slice (w:=w) (κ:=κ) (pv:=pv) (es:=bA g es) (tag:=dK g t) (a:=a) (cap:=cap) b off sz u
   (fun i hi=>by rw[kr]at hi;rw[pU,jB];exact h1 i hi)
   (fun hne=>h2 (fun e=>hne (by subst e;rfl))) (by rw[kr];exact h3) (by rw[kr];exact h3')
   (fun i j hi hj=>by rw[kr]at hi;exact h4 i j hi hj) (fun i j hi hj=>by rw[kr]at hi;exact h5 i j hi hj)
   (fun i j hi hj=>by rw[kr]at hi;rw[pU,iT];exact ih i j hi hj)
   (by
    cases t with
    |shared=>trivial
    |nils=>exact ht
    |full n=>exact ht
    |tip l z=>
     obtain⟨e1,ht⟩:=ht;refine⟨e1,ht.imp id ?_⟩;rintro⟨b,c,e,q1,q2⟩;exact⟨b,c,e,hg _ _ q1,q2⟩)
  rw[kr]at key;exact key
 |agg h1 _ ih=>
  refine .agg ?_ ?_<;>rw[jB]
  ·exact h1
  ·intro j hj;rw[iT];exact ih j hj
 |tup h1 _ ih=>
  refine .tup ?_ ?_<;>rw[jB]
  ·exact h1
  ·intro j hj;rw[iT];exact ih j hj
 |func h1 _ ih=>
  refine .func ?_ ?_<;>rw[jB]
  ·exact h1
  ·intro j hj;rw[iT];exact ih j hj
 |mapr h=>exact .mapr (hg _ _ h)
 |nilFunc=>exact .nilFunc
 |yv l=>exact .yv l
 |psl h1 h2 h3=>
  refine .psl h1 h2 ?_;obtain⟨e1,ht⟩:=h3;refine⟨e1,ht.imp id ?_⟩
  grind
 |flnil=>exact .flnil
 |flcons u y h1 h2 h3 _ _ ih1 ih2=>
  refine .flcons u y ?_ ?_ ?_ ?_ ih2<;>rw[jB]
  ·exact h1
  ·exact h2
  ·exact h3
  ·intro j hj;rw[iT];exact ih1 j hj
theorem nE.vw{w:World}{κ κe:bg}{pv:bB}{g:Nat→Nat}(hg:∀i,at? κe i=at? κ (g i)){b:Nat}{o:AObj}(h:nE w κ pv b (bN g o)):nE w κe pv b o:=by
 cases o with
 |box cs=>
  obtain⟨c,e,h1,h2,h3⟩:=h;rw[jB]at h2 h3;exact⟨c,e,h1,h2,fun j hj=>(h3 j hj).vw hg _ (iT _ _ _)⟩
 |tip n=>exact h
 |mp es=>
  obtain⟨ms,cl,h1,h2,h3,h4⟩:=h;rw[qAo]at h2 h4;refine⟨ms,cl,h1,h2,by simpa[qBt,qCE]using h3,fun j hj=>?_⟩;have:=h4 j hj;simp only[List.getD,qAF,qAe hj]at this⊢;exact⟨this.1,this.2.vw hg _ rfl⟩
 |dead=>trivial
 |res=>trivial
 |arr z es=>
  obtain⟨c,e,h1,h2,h3,h4⟩:=h;rw[kr]at h2 h3 h4;refine⟨c,e,h1,h2,fun i hi=>by have:=h3 i hi;rwa[pU,jB]at this,fun i j hi hj=>?_⟩;exact(h4 i j hi hj).vw hg _ (by rw[pU,iT])
theorem nE.ren{w:World}{κ κe:bg}{pv:bB}{g:Nat→Nat}(hg:∀i b,at? κe i=some b→at? κ (g i)=some b){b:Nat}{o:AObj}(h:nE w κe pv b o):nE w κ pv b (bN g o):=by
 cases o with
 |box cs=>
  obtain⟨c,e,h1,h2,h3⟩:=h;refine⟨c,e,h1,by rw[jB];exact h2,fun j hj=>?_⟩;rw[jB]at hj;rw[iT];exact(h3 j hj).ren hg
 |tip n=>exact h
 |mp es=>
  obtain⟨ms,cl,h1,h2,h3,h4⟩:=h;refine⟨ms,cl,h1,by rw[qAo];exact h2,by simpa[qBt,qCE]using h3,fun j hj=>?_⟩;rw[qAo]at hj;have:=h4 j hj;simp only[List.getD,qAF,qAe hj]at this⊢;exact⟨this.1,this.2.ren hg⟩
 |dead=>trivial
 |res=>trivial
 |arr z es=>
  obtain⟨c,e,h1,h2,h3,h4⟩:=h;refine⟨c,e,h1,by rw[kr];exact h2,fun i hi=>?_,fun i j hi hj=>?_⟩
  ·rw[kr]at hi;rw[pU,jB];exact h3 i hi
  ·rw[kr]at hi;rw[pU,iT];exact(h4 i j hi hj).ren hg
structure Entry(κ:bg)(aN:bB)(H:List AObj)(w:World):Prop where
 klen:κ.length=H.length
 resv:∀l,obj? H l=.res→at? κ l=none
 obj:∀l b,at? κ l=some b→live (obj? H l)→nE w κ (aO aN κ H) b (obj? H l)
 apart:∀l l' b,at? κ l=some b→at? κ l'=some b→live (obj? H l)→live (obj? H l')→l=l'
 bound:∀l b,at? κ l=some b→b<w.heap.size
 pvlt:∀b o,aN b o→b<w.heap.size
 pvdis:∀b o l,aN b o→at? κ l=some b→¬live (obj? H l)
structure Leave(κ κ':bg)(aN:bB)(H H':List AObj)(w w':World):Prop where
 klen:κ'.length=H'.length
 hlen:H.length≤H'.length
 kext:bV κ κ'
 resv:∀l,obj? H' l=.res→at? κ' l=none
 obj:∀l b,at? κ' l=some b→live (obj? H' l)→nE w' κ' (aO aN κ' H') b (obj? H' l)
 stay:∀l b,at? κ' l=some b→live (obj? H' l)→w.heap.size≤b∨∃l0,at? κ l0=some b∧live (obj? H l0)
 apart:∀l l' b,at? κ' l=some b→at? κ' l'=some b→live (obj? H' l)→live (obj? H' l')→l=l'
 bound:∀l b,at? κ' l=some b→b<w'.heap.size
 kept:∀b:Nat,b<w.heap.size→(∀l,at? κ l=some b→¬live (obj? H l))→w'.heap[b]? =w.heap[b]?
 iH:Evo (aO aN κ H) w w'
 pvsub:∀b o,aO aN κ' H' b o→b<w.heap.size→aO aN κ H b o
 os:w'.os=w.os
 tape:w'.tape=w.tape
 output:w'.output=w.output
def ak(P:Program)(f:Nat)(args:List AV)(H:List AObj)(res:AV)(H':List AObj):Prop:=
 ∀(κ:bg) (aN:bB) (w:World) (vs:List Value),Entry κ aN H w→vs.length=args.length→(∀j,j<args.length→Rel w κ (aO aN κ H) (args.getD j .unk) (vs.getD j undef))→
  Calls P f vs.toArray w fun e w'=>∃v κ',e=.returned v∧Leave κ κ' aN H H' w w'∧Rel w' κ' (aO aN κ' H') res v
inductive SW:AV→AV→Prop where
 |same (x:AV):SW x x
 |share (es:List (List AV)) (t:Tag):SW (.slice es t) (.slice es .shared)
 |nilF:SW .nilp (.flist [])
 |unk (x:AV):SW x .unk
 |agg {cs cs':List AV}:cs.length=cs'.length→(∀j,SW (cs.getD j .unk) (cs'.getD j .unk))→SW (.agg cs) (.agg cs')
theorem SW.rel{x y:AV}(hs:SW x y):∀{w:World} {κ:bg} {pv:bB} {v:Value},Rel w κ pv x v→Rel w κ pv y v:=by
 induction hs with
 |same x=>intro w κ pv v h;exact h
 |share es t=>intro w κ pv v h;exact h.share
 |nilF=>intro w κ pv v h;cases h;exact .flnil
 |unk x=>intro w κ pv v _;exact .unk v
 |agg hl _ ih=>
  intro w κ pv v h;cases h with
  |agg g1 g2=>exact .agg (g1.trans hl) fun j hj=>ih j (g2 j (by omega))
inductive SWs:List AV→List AV→Prop where
 |nil:SWs [] []
 |cons {x y:AV} {xs ys:List AV}:SW x y→SWs xs ys→SWs (x::xs) (y::ys)
theorem SWs.len{xs ys:List AV}(hv:SWs xs ys):xs.length=ys.length:=by
 induction hv with
 |nil=>rfl
 |cons _ _ ih=>simp[ih]
theorem SWs.get{xs ys:List AV}(hv:SWs xs ys):∀j,SW (xs.getD j .unk) (ys.getD j .unk):=by
 induction hv with
 |nil=>intro j;exact .same _
 |cons h1 _ ih=>intro j;cases j with
  |zero=>exact h1
  |succ j=>exact ih j
theorem SWs.refl:∀xs,SWs xs xs
 |[]=>.nil
 |x::xs=>.cons (.same x) (SWs.refl xs)
end
section
open Go
def nX{α:Type}(xs:List α):List Nat→List α→List α
 |l::ls,v::vs=>nX (xs.set l v) ls vs
 |_,_=>xs
theorem FI{α:Type}:∀(ls:List Nat) (vs xs:List α),(nX xs ls vs).length=xs.length
 |[],_,_=>by simp[nX]
 |_::_,[],_=>by simp[nX]
 |l::ls,v::vs,xs=>by simp[nX,FI ls vs]
theorem yO{α:Type}:∀(ls:List Nat) (vs xs:List α) (n:Nat),n∉ls→(nX xs ls vs)[n]? =xs[n]?
 |[],_,_,_,_=>by simp[nX]
 |_::_,[],_,_,_=>by simp[nX]
 |l::ls,v::vs,xs,n,h=>by
  simp at h;simp only[nX];rw[yO ls vs _ n h.2,qBE (qAZ h.1)]
theorem Et{α:Type}:∀(ls:List Nat) (vs xs:List α) (i n:Nat),ls.Nodup→ls[i]? =some n→i<vs.length→n<xs.length→(nX xs ls vs)[n]? =vs[i]?
 |[],_,_,_,_,_,h,_,_=>by simp at h
 |_::_,[],_,_,_,_,_,h,_=>by simp at h
 |l::ls,v::vs,xs,i,n,hnd,hi,hlt,hn=>by
  simp only[nX];rw[qCr]at hnd;cases i with
  |zero=>
   simp at hi;subst hi;rw[yO ls vs _ l hnd.1,qCd hn];rfl
  |succ i=>
   exact Et ls vs _ i n hnd.2 hi (by simpa using hlt) (by simpa using hn)
def kM:List Nat→List AObj→List Wr
 |l::ls,o::os=>.obj l o::kM ls os
 |_,_=>[]
theorem kg(s:ASt)(a b:List Wr):s.wr (a++b)=(s.wr a).wr b:=by simp[ASt.wr]
theorem Fx:∀(ls:List Nat) (os:List AObj) (s:ASt),s.wr (kM ls os)={s with heap:=nX s.heap ls os}
 |[],_,s=>by simp[kM,nX,ASt.wr]
 |_::_,[],s=>by simp[kM,nX,ASt.wr]
 |l::ls,o::os,s=>by
  have:=Fx ls os (s.setObj l o);exact this
def nm(L:List Nat)(big:Nat)(i:Nat):Nat:=(L[i]?).getD big
theorem at?_none_of_le{κ:bg}{l:Nat}(h:κ.length≤l):at? κ l=none:=by
 unfold at?;rw[qAn h];rfl
section
variable {C:Ctx}{κ:bg}{s:ASt}{a:Act}{w:World}{ρ ks:List Nat}{H H':List AObj}
def EY(aN:bB)(κ:bg)(S:List AObj)(ρ:List Nat):bB:=fun b o=>aN b o∨∃l,l∉ρ∧at? κ l=some b∧qW (obj? S l) o
theorem at?_map{i:Nat}:at? (ρ.map (at? κ)) i=match ρ[i]? with|some l=>at? κ l|none=>none:=by
 simp only[at?,qAF];cases ρ[i]?<;>rfl
structure Passes(s:ASt)(ρ ks:List Nat)(H:List AObj):Prop where
 nodup:(ρ++ks).Nodup
 hlen:H.length=ρ.length
 lt:∀l∈ρ,l<s.heap.length
 res:∀l∈ks,dA (obj? s.heap l)=true
 obj:∀i l,ρ[i]? =some l→obj? s.heap l=bN (nm (ρ++ks) s.heap.length) (obj? H i)
theorem Jg(hp:Passes s ρ ks H):aO (EY C.aN κ s.heap ρ) (ρ.map (at? κ)) H=aO C.aN κ s.heap:=by
 funext b o;apply propext;constructor
 ·rintro((h|⟨l,_,h1,h2⟩)|⟨i,h1,h2⟩)
  ·exact .inl h
  ·exact .inr ⟨l,h1,h2⟩
  ·rw[at?_map]at h1;cases hi:ρ[i]? with
   |none=>rw[hi]at h1;cases h1
   |some l=>rw[hi]at h1;exact .inr ⟨l,h1,by rw[hp.obj i l hi,BA];exact h2⟩
 ·rintro(h|⟨l,h1,h2⟩)
  ·exact .inl (.inl h)
  ·by_cases hl:l∈ρ
   ·obtain⟨i,hi⟩:=qAL hl;refine .inr ⟨i,by rw[at?_map,hi];exact h1,?_⟩;rw[hp.obj i l hi,BA]at h2;exact h2
   ·exact .inl (.inr ⟨l,hl,h1,h2⟩)
theorem CF{o:AObj}{n:Nat}(h:qW o n):live o:=by cases o<;>simp[qW,live]at *
theorem YB(hs:Sim C κ s a w)(hp:Passes s ρ ks H)(i:Nat):at? (ρ.map (at? κ)) i=at? κ (nm (ρ++ks) s.heap.length i):=by
 rw[at?_map];unfold nm;cases hi:ρ[i]? with
 |some l=>rw[qAf (qAk.1 hi).1,hi];rfl
 |none=>
  have hle:ρ.length≤i:=List.getElem?_eq_none_iff.1 hi;rw[qAm hle];cases hk:ks[i - ρ.length]? with
  |none=>simp;rw[at?_none_of_le (by rw[hs.klen];exact qAc _)]
  |some k=>
   simp;have:=hp.res k (qAJ hk);rw[hs.resv k (vT this).1]
theorem aeo(hs:Sim C κ s a w)(hp:Passes s ρ ks H):Entry (ρ.map (at? κ)) (EY C.aN κ s.heap ρ) H w:=by
 have hat:∀i b,at? (ρ.map (at? κ)) i=some b→∃l,ρ[i]? =some l∧at? κ l=some b:=fun i b h=>by
  rw[at?_map]at h
  grind
 refine⟨by simp[hp.hlen],?_,?_,?_,?_,?_,?_⟩
 ·intro i hi;rw[at?_map];cases h:ρ[i]? with
  |none=>rfl
  |some l=>simp only;exact hs.resv l (by rw[hp.obj i l h,hi];rfl)
 ·intro i b h1 h2;obtain⟨l,hl,hb⟩:=hat i b h1;have hobj:=hp.obj i l hl;have:=hs.obj l b hb (by rw[hobj,jh];exact h2);rw[Jg hp];rw[hobj]at this;exact this.vw (YB hs hp)
 ·intro i j b h1 h2 h3 h4;obtain⟨l,hl,hb⟩:=hat i b h1;obtain⟨l',hl',hb'⟩:=hat j b h2;have e:=hs.apart l l' b hb hb' (by rw[hp.obj i l hl,jh];exact h3) (by rw[hp.obj j l' hl',jh];exact h4);subst e;have hnd:=(List.nodup_append.1 hp.nodup).1;have hi:=(qAk.1 hl).1;exact(qCc hi hnd).1 (hl.trans hl'.symm)
 ·intro i b h1;obtain⟨l,_,hb⟩:=hat i b h1;exact hs.bound l b hb
 ·rintro b o (h|⟨l,_,h1,_⟩)
  ·exact qAq (hs.oldlt _ (hs.pvold _ _ h)) hs.size
  ·exact hs.bound l b h1
 ·rintro b o i h h1 hlv;obtain⟨l,hl,hb⟩:=hat i b h1;have hlive:live (obj? s.heap l):=by rw[hp.obj i l hl,jh];exact hlv
  rcases h with h|⟨l',hn,h2,h3⟩
  ·exact hs.own l b hb hlive (hs.pvold _ _ h)
  ·have e:=hs.apart l l' b hb h2 hlive (CF h3)
   grind
theorem Sim.back(hs:Sim C κ s a w)(hp:Passes s ρ ks H){κ':bg}{w':World}(hlv:Leave (ρ.map (at? κ)) κ' (EY C.aN κ s.heap ρ) H H' w w')(hH:H'.length=(ρ++ks).length){res:AV}{v:Value}
  (hr:Rel w' κ' (aO (EY C.aN κ s.heap ρ) κ' H') res v):
  ∃κc,Sim C κc (s.wr (kM (ρ++ks) (H'.map (bN (nm (ρ++ks) s.heap.length))))) a w'∧
   Rel w' κc (aO C.aN κc (s.wr (kM (ρ++ks) (H'.map (bN (nm (ρ++ks) s.heap.length))))).heap) (ren (nm (ρ++ks) s.heap.length) res) v:=by
 let L:=ρ++ks
 let g:=nm L s.heap.length
 let Hc:=nX s.heap L (H'.map (bN g))
 let κc:bg:=nX κ L κ'
 have hLlt:∀l∈L,l<s.heap.length:=fun l hl=>by
  rcases qBn.1 hl with h|h
  ·exact hp.lt l h
  ·exact(vT (hp.res l h)).2
 have hkl:κ'.length=L.length:=by rw[hlv.klen];exact hH
 have hHL:H'.length=L.length:=hH;have oIn:∀i l,L[i]? =some l→obj? Hc l=bN g (obj? H' i):=fun i l hl=>by
  have hi:=(qAk.1 hl).1;have:=Et L (H'.map (bN g)) s.heap i l hp.nodup hl (by rw[qAo];omega) (hLlt l (qAJ hl));simp only[obj?,Hc,this,qAF]
  grind
 have oOut:∀l,l∉L→obj? Hc l=obj? s.heap l:=fun l hl=>by simp only[obj?,Hc,yO L _ _ l hl]
 have kIn:∀i l,L[i]? =some l→at? κc l=at? κ' i:=fun i l hl=>by
  have hi:=(qAk.1 hl).1;have:=Et L κ' κ i l hp.nodup hl (by omega) (by rw[hs.klen];exact hLlt l (qAJ hl));simp only[at?,κc,this]
 have kOut:∀l,l∉L→at? κc l=at? κ l:=fun l hl=>by simp only[at?,κc,yO L _ _ l hl]
 have hgup:∀i b,at? κ' i=some b→at? κc (g i)=some b:=fun i b hb=>by
  have hi:i<L.length:=by rw[←hkl];exact lt_of_at? hb
  have:g i=L[i]:=by simp only[g,nm,qAe hi];rfl
  grind
 have hpve:=Jg (C:=C) (κ:=κ) hp;have hpL:∀l∈L,l∉ρ→at? κ l=none:=fun l hl hn=>by
  rcases qBn.1 hl with h|h
  ·exact(hn h).elim
  ·exact hs.resv l (vT (hp.res l h)).1
 have hpsub:∀x o,aO C.aN κc Hc x o→aO (EY C.aN κ s.heap ρ) κ' H' x o:=by
  rintro x o (h|⟨l,h1,h2⟩)
  ·exact .inl (.inl h)
  ·by_cases hl:l∈L
   ·obtain⟨i,hi⟩:=qAL hl;rw[kIn i l hi]at h1;rw[oIn i l hi,BA]at h2;exact .inr ⟨i,h1,h2⟩
   ·rw[kOut l hl]at h1;rw[oOut l hl]at h2;exact .inl (.inr ⟨l,fun h=>hl (qBu _ h),h1,h2⟩)
 have hbelow:∀i l b,L[i]? =some l→at? κ' i=some b→live (obj? H' i)→w.heap.size≤b∨∃l0 i0,ρ[i0]? =some l0∧at? κ l0=some b∧live (obj? s.heap l0):=fun i l b hi hb hl=>by
  rcases hlv.stay i b hb hl with h|⟨i0,h1,h2⟩
  ·exact .inl h
  ·rw[at?_map]at h1;cases h0:ρ[i0]? with
   |none=>rw[h0]at h1;cases h1
   |some l0=>rw[h0]at h1;exact .inr ⟨l0,i0,h0,h1,by rw[hp.obj i0 l0 h0,jh];exact h2⟩
 have hmono:∀{x:AV} {u:Value},Rel w' κ' (aO (EY C.aN κ s.heap ρ) κ' H') x u→Rel w' κc (aO C.aN κc Hc) (ren g x) u:=fun hx=>(hx.ren hgup).mono (Evo.refl _ _) (bV.refl _) (fun x o h _=>hpsub x o h);have hsim:Sim C κc {s with heap:=Hc} a w':=by
  refine hs.step (H':=Hc) (by rw[←hpve];exact hlv.iH) ?_ (by simp only[κc,Hc,FI];exact hs.klen) ?_ ?_ ?_ ?_ ?_ ?_ hlv.os hlv.tape hlv.output
  ·intro l b hb;by_cases hl:l∈L
   ·obtain⟨i,hi⟩:=qAL hl;rw[kIn i l hi];apply hlv.kext;rw[at?_map];by_cases hr:l∈ρ
    ·have hlt:i<ρ.length:=by
      obtain⟨j,hj⟩:=qAL hr;have hj':L[j]? =some l:=by rw[qAf (qAk.1 hj).1];exact hj
      have:i=j:=(qCc (qAk.1 hi).1 hp.nodup).1 (hi.trans hj'.symm);rw[this];exact(qAk.1 hj).1
     rw[qAf hlt]at hi;rw[hi];exact hb
    ·rw[hpL l hl hr]at hb;cases hb
   ·rw[kOut l hl];exact hb
  ·intro x o h hlt;rw[←hpve];exact hlv.pvsub x o (hpsub x o h) hlt
  ·intro l b h1 h2;by_cases hl:l∈L
   ·obtain⟨i,hi⟩:=qAL hl;rw[kIn i l hi]at h1;rw[oIn i l hi,jh]at h2;refine .inr ⟨hlv.bound i b h1,fun ho=>?_,?_⟩
    ·rcases hbelow i l b hi h1 h2 with h|⟨l0,i0,_,h3,h4⟩
     ·have:=hs.oldlt b ho;have:=hs.size;omega
     ·exact hs.own l0 b h3 h4 ho
    ·rw[oIn i l hi];have:=(hlv.obj i b h1 h2).ren hgup;exact this.mono rfl (Evo.refl _ _) (bV.refl _) (fun x o h _=>hpsub x o h)
   ·rw[kOut l hl]at h1;rw[oOut l hl]at h2⊢;refine .inl ⟨h1,rfl,hlv.kept b (hs.bound l b h1) fun i hi hlive=>?_⟩;rw[at?_map]at hi;cases h0:ρ[i]? with
    |none=>rw[h0]at hi;cases hi
    |some l0=>
     rw[h0]at hi;have e:=hs.apart l l0 b h1 hi h2 (by rw[hp.obj i l0 h0,jh];exact hlive);subst e;exact hl (qBu _ (qAJ h0))
  ·intro l1 l2 b g1 g2 g3 g4;by_cases e1:l1∈L<;>by_cases e2:l2∈L
   ·obtain⟨i,hi⟩:=qAL e1;obtain⟨j,hj⟩:=qAL e2;rw[kIn i l1 hi]at g1;rw[kIn j l2 hj]at g2;rw[oIn i l1 hi,jh]at g3;rw[oIn j l2 hj,jh]at g4;have:=hlv.apart i j b g1 g2 g3 g4;subst this;exact Option.some.inj (hi.symm.trans hj)
   ·obtain⟨i,hi⟩:=qAL e1;rw[kIn i l1 hi]at g1;rw[oIn i l1 hi,jh]at g3;rw[kOut l2 e2]at g2;rw[oOut l2 e2]at g4;rcases hbelow i l1 b hi g1 g3 with h|⟨l0,i0,h0,h3,h4⟩
    ·have:=hs.bound l2 b g2;omega
    ·have e:=hs.apart l2 l0 b g2 h3 g4 h4;subst e;exact(e2 (qBu _ (qAJ h0))).elim
   ·obtain⟨i,hi⟩:=qAL e2;rw[kIn i l2 hi]at g2;rw[oIn i l2 hi,jh]at g4;rw[kOut l1 e1]at g1;rw[oOut l1 e1]at g3;rcases hbelow i l2 b hi g2 g4 with h|⟨l0,i0,h0,h3,h4⟩
    ·have:=hs.bound l1 b g1;omega
    ·have e:=hs.apart l1 l0 b g1 h3 g3 h4;subst e;exact(e1 (qBu _ (qAJ h0))).elim
   ·rw[kOut l1 e1]at g1;rw[kOut l2 e2]at g2;rw[oOut l1 e1]at g3;rw[oOut l2 e2]at g4;exact hs.apart l1 l2 b g1 g2 g3 g4
  ·intro l b h1;by_cases hl:l∈L
   ·obtain⟨i,hi⟩:=qAL hl;rw[kIn i l hi]at h1;exact hlv.bound i b h1
   ·rw[kOut l hl]at h1;exact qAq (hs.bound l b h1) hlv.iH.size
  ·intro l h1;by_cases hl:l∈L
   ·obtain⟨i,hi⟩:=qAL hl;rw[oIn i l hi]at h1;rw[kIn i l hi];apply hlv.resv
    revert h1
    cases obj? H' i<;>simp[bN]
   ·rw[oOut l hl]at h1;rw[kOut l hl];exact hs.resv l h1
  ·intro b hb;refine hlv.kept b (qAq (hs.oldlt b hb) hs.size) fun i hi hlive=>?_;rw[at?_map]at hi;cases h0:ρ[i]? with
   |none=>rw[h0]at hi;cases hi
   |some l0=>
    rw[h0]at hi;exact hs.own l0 b hi (by rw[hp.obj i l0 h0,jh];exact hlive) hb
 refine⟨κc,?_,?_⟩
 ·rw[Fx];exact hsim
 ·rw[Fx];exact hmono hr
end
end
end Abs
end Go.Proofs.YtkopaeklihhdlaaGreat

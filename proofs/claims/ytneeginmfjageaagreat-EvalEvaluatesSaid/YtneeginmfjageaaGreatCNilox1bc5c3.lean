/- A slice held against nil. Conditions: none. -/
import Derived.KernelRfl
import Derived.RangeFuncBox
import Derived.RangeFuncNested
import Derived.RangeFuncLeaves
import Derived.Shelf.Abstract
import Derived.WalkKit
import Derived.OwnWalkIn
import Derived.TacticsInMore
import Derived.LoopNIn
import Derived.LoopIn
import Derived.Test.YtneeginmfjageaaGreatProg
import Derived.Test.YtneeginmfjageaaGreatCEnox800a83
import Derived.Test.YtneeginmfjageaaGreatCRngox6d4784
set_option linter.all false
namespace Go.Proofs.YtneeginmfjageaaGreat
namespace Abs
def AW.aGc{P:Program}{m id x y d:Nat}{o c:Oper}{Q:QT}{t:An}{h:A6}{T H e:TypeId}{es:List An}{tag:Tag}
  (I:o.op=.move (.tmp x)) (J:o.guard=none) (K:o.dst=some y) (h2:c.op=.binOp .eql T (.tmp y) (.const (.slice none 0 0)) H) (L:c.guard=none) (M:c.dst=some d)
  (N:P.underlying T=some (.slice e)) (O:t.getD x .unk=.slice es tag) (R:y<t.length)
  (S:∀b:Bool,(b=true->es=[])->Q .normal ((t.set y (.slice es tag)).set d (.bool b)) h):AW P m (.region id #[o,c] false) Q t h:=by
 intro C U a w hk V;refine wp_region_lit (l:=[o,c]) ?_;simp only[wpList];have W:∀f,Region.wanted o f=true:=λf=>by simp[Region.wanted,J]
 have X:∀f,Region.wanted c f=true:=λf=>by simp[Region.wanted,L]
 simp only[W,if_true];refine .inl ?_;have p:zD P o ⟨t,h⟩ ((⟨t,h⟩:ASt).wr (aA o.dst (.slice es tag))):=Zh (by rw[I];simp only[aC,bL];rw[O]);refine p C U a w V _ _ λq z i s=>?_;simp only[X,if_true];refine .inl ?_;rw[K]at s;have j:=s.ev (.tmp y);have Y:bL ((⟨t,h⟩:ASt).wr (aA (some y) (.slice es tag))).tmps (.tmp y)=.slice es tag:=by
  show(t.set y (.slice es tag)).getD y .unk=_;exact lW R
 rw[Y]at j;cases v:z.eval (.tmp y)with
 |slice g n k=>
  rw[v]at j;have r:(execOp z.eval c).run P i=.ok (.value (.bool g.isNone)) i:=by
   let⟨Z,op,ty,pos,A,B⟩:=c;simp only at h2;subst h2;have hc:z.eval (.const (.slice none 0 0))=.slice none 0 0:=rfl;have D:(Op.equal T (.slice g n k) (.slice none 0 0)).run P i=.ok g.isNone i:=by
    have hh:∀F,(Op.equalIn (F+1) T (.slice g n k) (.slice none 0 0)).run P i=.ok g.isNone i:=λF=>by cases g<;>simp[Op.equalIn,run_underlying N]
    exact hh 9999
   simp[execOp,v,hc,binOp,eqGuard,D]
  unfold Oper.wp;rw[r];refine⟨(((⟨t,h⟩:ASt).wr (aA (some y) (.slice es tag))).setSlot d (.bool g.isNone)),q,S _ λG=>?_,?_⟩
  ·cases j with
   |slice b off sz u q1 q2 q3 q3' q4 q5 q6 q7=>
    apply qAn;intro E;rw[q2 E]at G;cases G
  rw[M];exact s.put (.bool _)
 |_=>rw[v]at j;cases j
def ase{P:Program}{o:Oper}{s:ASt}{t k e sz y:Nat}(f:o.op=.buildSlice t 0 #[])(g:mX P t=some (e,sz,y))(l:dG (obj? s.heap k)=true):zD P o s (s.wr (.obj k (.arr sz [])::aA o.dst (.psl k sz 0))):=
 pI λC x a w n=>by
  let⟨u,i,v,b,z,p,q,r⟩:=oD g;let⟨d,m⟩:=al4 n l (es:=[]) (c:=#[]) (e:=e) (cap:=0) (sz:=sz) (λi b=>by simp at b) cn cn cn (λi j b=>by simp at b) o.dst;refine⟨_,d,_,?_,m⟩;have h:(sizeOf e).run P w=.ok sz w:=by simp[sizeOf,typeInfo,b,z]
  simp only[execOp,f,Instr.buildSlice,Sem.run_bind,run_underlying u,Result.andThen_ok,h];rw[Sem.run_ite,if_neg Cl];simp[newRow,Instr.fill,show Array.range 0=#[]from rfl]
def AW.aLI{P:Program}{m:Nat}{x y:Code}{Q:QT}{t t':An}{h a:A6}(b:AW P m x (nrm m t' a) t h)(h2:AW P m y Q t' a):AW P m (.seq x y) Q t h:=
 AW.seq (b.mono λe t h ⟨c,d⟩=>by subst c;exact AW.le d h2)
def aw0{R:Type}(f:DS->Option R)(y:R):QT:=λe t h=>e=.ret/\∃s,St 0 [] s/\f s=some y/\Le 0 t h (aU s.h s.t) (aB s.h)
def V6{P:Program}{te:Nat}{θ:Nat->B8}{n:Nat}{c:Code}{p:Nat}{s:DS}{R:Type}{f:DS->Option R}{y:R}{τ:Nat->TI}(b:τ=TI.of P)(d:uf P te=true)(i:P.follows .mixedOrders=true)(j:St 0 [] s)
  (h:exe ⟨τ,θ,n,R,[],0,te,λ_ _=>none⟩ [] f c R p s some (λ_ _=>none)=some y):AW P 0 c (aw0 f y) (aU s.h s.t) (aB s.h):=by subst b;refine(WL (n:=n) (hs:=[]) (te:=te) (pn:=λ_ _=>none) (ret:=f) (m:=0) (h0:=[]) (λe o=>by cases o) d i c _ p s _ _ y j h).mono λe t r q=>?_;cases q with|ret k l g a=>cases a;exact⟨rfl,_,l,g,k⟩|qd k l g a=>cases g|go k l g a=>cases a
def cL:Code->Code| .seq a _=>a|c=>c
def cR:Code->Code| .seq _ b=>b|c=>c
noncomputable def bdy(fn:Func):Code:=match fn.body with|some c=>c|none=>.skip
noncomputable def lkS(t:As)(h:A0):DS:=⟨t,h,[],[],[],[],[],[]⟩
def clT(el:ET)(x:List el.D):As:=[.lf (.l el) x,.tup [],.nils,.tup [],.tup [],.tup [],.tup [],.tup []]
def clU(el:ET)(x:List el.D)(b:Bool):As:=[.lf (.l el) x,.tup [],.nils,.lf (.l el) x,.lf .b b,.tup [],.tup [],.tup []]
def YR{P:Program}{te:Nat}{θ:Nat->B8}{τ:Nat->TI}{n f:Nat}{el:ET}{a:Be}{R:Type}{g:Option (jI (bM [.r 0 (.lf (.l el))])->Bool)}{F:List el.D->Option R}{out:R->jI (bM a)}{fn:Func}{v C:Oper}{L A B:Code}{id:Nat}{T O Q:TypeId}
  (inn:jI (bM a)->Option R) (c:τ=TI.of P) (j:uf P te=true) (m:P.follows .mixedOrders=true) (S:P.funcs[f]? =some fn) (D:mQ P f=true) (w:JC ⟨f,1,[.r 0 (.lf (.l el))],1,a,R,none,g,F,out⟩=true)
  (M:fn.ntmps=8) (E:1=fn.results.toList.length) (l:∀z y,inn z=some y->out y=z)
  (U:fn.body=some (.seq L (.seq (.seq (.region id #[v,C] false) (.cond (.tmp 4) A .skip)) B)))
  (G:v.op=.move (.tmp 0)) (V:v.guard=none) (W:v.dst=some 3) (h2:C.op=.binOp .eql T (.tmp 3) (.const (.slice none 0 0)) O) (X:C.guard=none) (Y:C.dst=some 4) (Z:P.underlying T=some (.slice Q))
  (q0:∀x:List el.D,exe ⟨τ,θ,n,Unit,[],0,te,λ_ _=>none⟩ [] (λ_=>none) L (As×A0) 1 (lkS (.lf (.l el) x::List.replicate 7 (.tup [])) []) (λ_=>none) (λe s=>match e with| .normal=>some (s.t,s.h)|_=>none)=some (clT el x,[]))
  (qA:exe ⟨τ,θ,n,R,[],0,te,λ_ _=>none⟩ [] (yK τ 0 fn.results.toList a inn) A R 3 (lkS (clU el [] true) []) some (λ_ _=>none)=F [])
  (qB:∀x y,F x=some y->AW P 0 B (aw0 (yK τ 0 fn.results.toList a inn) y) (aU [] (clU el x false)) []):
  ah P te ⟨f,1,[.r 0 (.lf (.l el))],1,a,R,none,g,F,out⟩:=by
 have H:=w;unfold JC at w;rw[qAa,qAa]at w;let⟨⟨_,w⟩,_⟩:=w;simp only[qAa]at w;let⟨_,o,_,_⟩:=w;refine⟨D,H,λx y N t h p=>?_⟩;obtain⟨rfl,rfl⟩:t=[.lf (.l el) x]/\h=[]:=⟨(congrArg Prod.fst p).symm,(congrArg Prod.snd p).symm⟩;intro r h' I;have u:∀{e t h},aw0 (yK τ 0 fn.results.toList a inn) y e t h->e=.ret/\BQ P fn.results.toList 0 r h' t h:=λ{e t h} ⟨i,s,s1,s2,s3⟩=>by subst c;let⟨t1,G,xs,k1,k2,k3⟩:=ad9 (e:=⟨f,1,[.r 0 (.lf (.l el))],1,a,R,none,g,F,out⟩) (h:=[]) l o rfl rfl E s1 s2 I;exact⟨i,t1,G,xs,s3.trans k1,k2,k3⟩
 refine apS S U (by rw[M];exact qAf rfl) (qAZ _) ?_;rw[M];have a0:=WM (h0:=[]) c (λe he=>by cases he) j m (wW (qAd 0)) (q0 x);refine AW.aLI a0 (AW.seq (AW.seq ?_));refine AW.aGc (x:=0) (y:=3) (d:=4) (es:=x.map el.enc) (tag:=.shared) G V W h2 X Y Z rfl (qAf rfl) λb J=>?_;refine AW.cond (b:=b) rfl (λi=>?_) λi=>?_
 ·have hx:x=[]:=List.map_eq_nil_iff.1 (J i);subst hx i;refine(V6 c j m (wW (qAd 0)) (qA.trans N)).mono λe t h q=>?_;let⟨K,k⟩:=u q;subst K;exact k
 subst i;refine AW.skip ?_;refine(qB x y N).mono λe t h q=>?_;let⟨K,k⟩:=u q;subst K;exact k
def aBN{P:Program}{τ:Nat->TI}{te n:Nat}{θ:Nat->B8}{el:ET}{b:Nat}{x:List el.D}{id:Nat}{d a g c:Oper}{t p e:TypeId}{f:DS->Option (List el.D)}(i:τ=TI.of P)(j:uf P te=true)(h:P.follows .mixedOrders=true)
  (D:d.op=.buildSlice t 0 #[]) (h2:a.op=.move (.tmp 0)) (E:g.op=.call {callee:=.builtin .append,args:=#[.tmp 5,.tmp 6],argTypes:=#[t,p]}) (F:c.op=.assign (.tmp 7)) (G:d.dst=some 5/\a.dst=some 6/\g.dst=some 7/\c.dst=some 2) (H:∀o∈[d,a,g,c],o.guard=none)
  (r:mX P t=some (e,el.sz,b)) (I:1<=b) (J:aP.isSliceT P p=true) (u:x.length*b<=140737488355328)
  (q:exe ⟨τ,θ,n,List el.D,[],0,te,λ_ _=>none⟩ [] f .ret (List el.D) 7 (lkS [.lf (.l el) x,.tup [],.psl 1 el.sz none,.lf (.l el) x,.lf .b false,.psl 0 el.sz (some 0),.lf (.l el) x,.psl 1 el.sz none] [.dead,.arr el x]) some (λ_ _=>none)=some x):
  AW P 0 (.seq (.region id #[d,a,g,c] false) .ret) (aw0 f x) (aU [] (clU el x false)) []:=by
 have w:∀o∈[d,a,g,c],∀t,eG #[d,a,g,c] t o=some true:=λo K t=>by simp[eG,H o K]
 simp only[qAh,forall_eq_or_imp,qCm,false_implies,forall_const,and_true]at w;let⟨L,M,N,O⟩:=w;let⟨Q,R,S,T⟩:=G;have ok:(x.map el.enc).all (dH el.sz)=true:=qAP.2 λv U=>by obtain⟨z,_,rfl⟩:=qAJ.1 U;exact NS el z
 have y:=ase (s:=⟨aU [] (clU el x false),[.res,.res]⟩) (k:=0) D r rfl;rw[Q]at y;have A:=Zh (P:=P) (o:=a) (v:=.slice (x.map el.enc) .shared) (s:=(⟨aU [] (clU el x false),[.res,.res]⟩:ASt).wr (.obj 0 (.arr el.sz [])::aA (some 5) (.psl 0 el.sz 0))) (by rw[h2];rfl);rw[R]at A;have B:=VJ (P:=P) (k:=1) (l:=0) (es:=[]) (es0:=[]) (ys:=x.map el.enc) (tag:=.shared) (s:=((⟨aU [] (clU el x false),[.res,.res]⟩:ASt).wr (.obj 0 (.arr el.sz [])::aA (some 5) (.psl 0 el.sz 0))).wr (aA (some 6) (.slice (x.map el.enc) .shared)))
  E rfl rfl r J rfl rfl rfl rfl rfl (by simpa using u) (by simpa using qAs (Nat.le_mul_of_pos_right _ I) u) rfl ok
 rw[S]at B;have C:=Zh (P:=P) (o:=c) (v:=.psl 1 el.sz (x.map el.enc).length) (s:=(((⟨aU [] (clU el x false),[.res,.res]⟩:ASt).wr (.obj 0 (.arr el.sz [])::aA (some 5) (.psl 0 el.sz 0))).wr (aA (some 6) (.slice (x.map el.enc) .shared))).wr (.obj 0 .dead:: .obj 1 (.arr el.sz ([]++x.map el.enc))::aA (some 7) (.psl 1 el.sz ([]++x.map el.enc).length))) (by rw[F];rfl);rw[T]at C;refine AW.seq (AW.of (dK.region (l:=[d,a,g,c]) 2 (.cons (.inl ⟨L _,y⟩) (.cons (.inl ⟨M _,A⟩) (.cons (.inl ⟨N _,B⟩) (.cons (.inl ⟨O _,C⟩) (.nil _))))) ?_));have:=V6 (s:=lkS [.lf (.l el) x,.tup [],.psl 1 el.sz none,.lf (.l el) x,.lf .b false,.psl 0 el.sz (some 0),.lf (.l el) x,.psl 1 el.sz none] [.dead,.arr el x]) i j h ⟨(wW (m:=0) (qAZ _)).inv,qAZ _,λl V=>absurd V (Nat.not_lt_zero l)⟩ q;simp only[qAo,qAi];exact this
def ayL:mQ Tryz.prog 72=true:=by kernel_rfl
def aGY(xs:Array Value)(w:World)(h:xs.size=4):CallsD Tryz.prog 72 xs .returning w λe u a=>e=.returned (.tuple #[])/\u=.returning/\a=w:=by
 let⟨l⟩:=xs
 match l,h with
 |[x,d,f,g],_=>
 refine callsD_of_wpS Tryz.func72 rfl λc s b=>?_;apply wpS_seq;apply wpS_region;simp[wpOpsS,go_sem,recoverD,b,Tryz.ntmps72,Exit.thenS];refine wpS_of_wp ?_;refine wp_block ?_;refine wp_seq ?_;apply wp_region;simp[wpOps,go_sem,Exit.then]
 first
  |refine wp_cond_true (by simp[Act.eval,go_sem]) ?_
  |refine .inl (wp_cond_true (by simp[Act.eval,go_sem]) ?_)
 apply wp_region;cases c
 simp_all [wpOps,go_sem,Exit.inBlock,bodyPostS,results,Tryz.results72]
def cD:Code->Code| .cond _ _ b=>b|c=>c
def cA:Code->Code| .cond _ a _=>a|c=>c
def cB:Code->Code| .block _ a=>a|c=>c
noncomputable def opsOf:Code->List Oper| .region _ o _=>o.toList|_=>[]
noncomputable def c72:Code:=cA (cR (cD (cR (cB (cR (bdy Tryz.f72))))))
section
variable (tm:Tm)(cs:A7)(ds:A4)(sz:A2)(mp:List (Str×Val))(bs z:At)(c:Nat)(v:Int)
def hP:A0:=[.box [.lf (.l .car) cs,.lf (.l .dec) ds,.lf (.l .i) sz,.mapr 1,.psl 8 5 none],.mp .val mp,.gon bs.length,.box [.ptr 0 0],.box [.lf (.t .tm) tm],.box [.lf (.n .i64) 0,.lf (.n .i64) 0,.lf .s [],.nils],.box [.lf (.n .i64) 0],.box [.lf (.n .i64) (bs.length:Int)],.arr .bnd z]
def hC:A0:=[.box [.lf (.l .car) cs,.lf (.l .dec) ds,.lf (.l .i) sz,.mapr 1,.psl 8 5 none],.mp .val mp,.gon bs.length,.box [.ptr 0 0],.box [.lf (.t .tm) tm],.box [.lf (.n .i64) 0,.lf (.n .i64) 0,.lf .s [],.nils],.box [.lf (.n .i64) v],.box [.lf (.n .i64) (bs.length:Int)],.arr .bnd (z.take c)]
noncomputable def s72:DS:=⟨[.ptr 3 0,.ptr 7 0,.ptr 5 0,.ptr 6 0,.tup [],.tup [],.tup [],.unk,.tup [],.unk,.unk,.unk,.lf (.n .i64) v,.tup [],.tup [],.tup [],.tup [],.tup [],.tup [],.tup [],.tup [],.tup [],.tup [],.tup []],hP tm cs ds sz mp bs z,[],[],[],[],[],[]⟩
def q72:exe ⟨τ,θ,0,Unit,[(6,.ca 8 0 4)],9,TE,λ_ _=>none⟩ [] (λ_=>none) c72 A0 1 (s72 tm cs ds sz mp bs z v) (λ_=>none) (λe s=>match e with| .normal=>some s.h|_=>none)=
  (FJ z.length (bs.length:Int)).bind λc=>bif Nat.ble c z.length then some (hC tm cs ds sz mp bs z c v)else none:=by kernel_rfl
def aLn(a:FJ z.length (bs.length:Int)=some c)(b:Nat.ble c z.length=true):
  AW Tryz.prog 9 c72 (λe t h=>e=.normal/\∃s:DS,s.h=hC tm cs ds sz mp bs z c v/\Le 9 t h (aU s.h s.t) (aB s.h)) (aU (hP tm cs ds sz mp bs z) (s72 tm cs ds sz mp bs z v).t) (aB (hP tm cs ds sz mp bs z)):=
 aDB (n:=0) (h0:=hP tm cs ds sz mp bs z) (f:=λ(s:DS)=>s.h) yJ (λe d=>by cases d) Cs Cs (s:=s72 tm cs ds sz mp bs z v) (wW (qAd _)) ((q72 tm cs ds sz mp bs z v).trans (by rw[a];simp only[qAb];rw[b];rfl))
def aHa(v:Int)(w:World):(Instr.typeAssert (.iface TE (.int .i64 v)) 20 41 true).run Tryz.prog w=.ok (.tuple #[.int .i64 v,.bool true]) w:=by
 have h:Tryz.prog.underlying 41=some (.int .i64):=by kernel_rfl
 simp[Instr.typeAssert,run_underlying h,go_sem,Result.andThen,TE]
set_option maxHeartbeats 2000000 in
theorem aIT(hv:0≤v∧v≤1000)(hc:FJ z.length (bs.length:Int)=some c)(hb:Nat.ble c z.length=true):
  an1 Tryz.prog 72 [.ptr 3 0,.ptr 7 0,.ptr 5 0,.ptr 6 0] (aB (hP tm cs ds sz mp bs z)) (Cz TE v) (aB (hC tm cs ds sz mp bs z c v)):=by
 obtain⟨HP,hHP⟩:∃H,H=aB (hP tm cs ds sz mp bs z):=⟨_,rfl⟩;obtain⟨HC,hHC⟩:∃H,H=aB (hC tm cs ds sz mp bs z c v):=⟨_,rfl⟩;rw[←hHP,←hHC];intro κ ak w vs hen hvl hr;have hsim:=UN (fn:=Tryz.f72) hen hvl hr
 match vs,hvl with
 |[x0,x1,x2,x3],_=>
 refine callsD_of_wpS Tryz.func72 rfl fun c₀ fr hu=>?_;apply wpS_seq;apply wpS_region;simp[wpOpsS,go_sem,recoverD,hu,Tryz.ntmps72,Exit.thenS];refine wpS_of_wp ?_;refine wp_block ?_;refine wp_seq ?_;apply wp_region;simp[wpOps,go_sem,Exit.then,Cz]
 first
  |refine wp_cond_false (by simp[Act.eval,go_sem]) ?_
  |refine .inl (wp_cond_false (by simp[Act.eval,go_sem]) ?_)
 refine wp_seq ?_;apply wp_region;simp[wpOps,go_sem,Exit.then,aHa];have h1:=(((((hsim.aA (some 7) (v:=.unk) (u:=Cz TE v) (.unk _)).aA (some 9) (v:=.unk) (u:=.bool false) (.unk _)).aA (some 10) (v:=.unk) (u:=.tuple #[.int .i64 v,.bool true]) (.unk _)).aA (some 11) (v:=.unk) (u:=.bool true) (.unk _)).aA (some 12) (v:=.int .i64 v) (u:=.int .i64 v) (.int (by simp[sj,IntKind.min,IntKind.max,IntKind.signed,IntKind.bits];omega)));rw[hHP]at h1;have h2:=aLn tm cs ds sz mp bs z c v hc hb _ _ _ _ (qBm (by rw[←hHP];exact hen.klen.trans (by rw[hHP];rfl))) h1;rw[←hHP]at h2
 first
  |refine wp_cond_true (by simp[Act.eval,go_sem]) ?_
  |refine .inl (wp_cond_true (by simp[Act.eval,go_sem]) ?_)
  |refine .inl (.inl (wp_cond_true (by simp[Act.eval,go_sem]) ?_))
  |refine .inl (.inl (.inl (wp_cond_true (by simp[Act.eval,go_sem]) ?_)))
 have hact:(((((({tmps:=#[x0,x1,x2,x3]++Array.replicate (Tryz.f72.ntmps - #[x0,x1,x2,x3].size) undef,defers:=[]}:Act).put (some 7) (Cz TE v)).put (some 9) (.bool false)).put (some 10) (.tuple #[.int .i64 v,.bool true])).put (some 11) (.bool true)).put (some 12) (.int .i64 v))=
   {tmps:=#[x0,x1,x2,x3]++(((((Array.replicate 20 undef).setIfInBounds 3 (Value.iface TE (Value.int IntKind.i64 v))).setIfInBounds 5 (Value.bool false)).setIfInBounds 6 (Value.tuple #[Value.int IntKind.i64 v,Value.bool true])).setIfInBounds 7 (Value.bool true)).setIfInBounds 8 (Value.int IntKind.i64 v),defers:=[]}:=by
  simp[Act.put,Tryz.ntmps72,Cz]
 rw[hact]at h2;refine wp_mono (c:=c72) h2 ?_;rintro e a' w' ⟨s',κ',⟨rfl,s1,hs1,hle⟩,hs'⟩;have hl9:HP.length=9:=by rw[hHP];rfl
 have hq:BQ Tryz.prog Tryz.f72.results.toList HP.length [] (hC tm cs ds sz mp bs z c v) s'.tmps s'.heap:=by
  rw[hl9];exact⟨_,_,[],hle,rfl,by rw[hs1];exact Le.refl _ _ _⟩
 let⟨v1,hv1,v2,κ2,e1,hleave,_⟩:=YM (fn:=Tryz.f72) hen (by rw[hl9];exact qAd 9) [] hq hs';rw[←hHC]at hleave;have hd:a'.defers=[]:=hs'.defers;exact⟨hd,.panicking [{v:=Value.iface TE (Value.int IntKind.i64 v),recovered:=true}],rfl,.tuple #[],by simp[results,Tryz.results72,go_sem],rfl,by simp[settle],κ2,hleave⟩
end
def Ctx.rk(C:Ctx)(κ:aS)(s:ASt)(w:World)(D:Nat):Ctx:={C with old:=λb=>C.old b∨b=D,w0:=w,pvE:=aH C.ak κ s.heap}
def Sim.rk{C:Ctx}{κ:aS}{s:ASt}{a:Act}{w:World}(h:Sim C κ s a w){D:Nat}(d:D<w.heap.size)(f:∀l,at? κ l≠some D):Sim (C.rk κ s w D) κ s a w where
 defers:=h.defers
 len:=h.len
 slot:=h.slot
 klen:=h.klen
 kext:=h.kext
 resv:=h.resv
 obj:=h.obj
 apart:=h.apart
 own:=λl b c e ho=>by
  rcases ho with ho|ho
  ·exact h.own l b c e ho
  exact f l (by rw[c,ho])
 bound:=h.bound
 pvold:=λb o p=>.inl (h.pvold b o p)
 oldlt:=λb hb=>by
  rcases hb with hb|hb
  ·exact qAB (h.oldlt b hb) h.size
  rw[hb];exact d
 old:=λ_ _=>rfl
 os:=rfl
 tape:=rfl
 output:=rfl
 size:=qAd _
 pvsub:=λ_ _ p _=>p
 ny:=Evo.refl _ _
def Sim.aHW{C:Ctx}{κ:aS}{s:ASt}{a:Act}{w:World}(h:Sim C κ s a w){D:Nat}{κ':aS}{s':ASt}{f:Act}{w':World}(c:Sim (C.rk κ s w D) κ' s' f w'):Sim C κ' s' f w'/\w'.heap[D]? =w.heap[D]?/\∀l,at? κ' l=some D->¬live (obj? s'.heap l):=
 ⟨{
   defers:=c.defers
   len:=c.len
   slot:=c.slot
   klen:=c.klen
   kext:=c.kext
   resv:=c.resv
   obj:=c.obj
   apart:=c.apart
   own:=λl b d e i=>c.own l b d e (.inl i)
   bound:=c.bound
   pvold:=h.pvold
   oldlt:=h.oldlt
   old:=λb g=>(c.old b (.inl g)).trans (h.old b g)
   os:=c.os.trans h.os
   tape:=c.tape.trans h.tape
   output:=c.output.trans h.output
   size:=qAs h.size c.size
   pvsub:=λb o p t=>h.pvsub b o (c.pvsub b o p (qAB t h.size)) t
   ny:=h.ny.trans c.ny λx o p t=>h.pvsub x o p t},
  c.old D (.inr rfl),λl d e=>c.own l D d e (.inr rfl)⟩
def asn(κ:aS)(ak:bU)(H:A6)(T:As)(h:A0)(w:World)(e:Ending)(w':World):Prop:=∃v a,e=Ending.returned v/\Leave κ a ak H (aB h) w w'/\Rel w' a (aH ak a (aB h)) (av h (res1 T)) v
def aCp(κ:aS)(ak:bU)(H H':A6)(v:Value)(w:World)(e:Ending)(w':World):Prop:=∃a,e=Ending.panicked [{v,recovered:=false}]/\Leave κ a ak H H' w w'
section
variable {P:Program}{fn:Func}{κ:aS}{ak:bU}{w:World}{H H':A6}{T:As}{hJ:A0}{D:Nat}{v:Value}
def NM(D:Nat):List Deferred:=[{target:=.collected D,args:=#[]}]
def apN(e:Entry κ ak H w)(j:H.length<=hJ.length){s:ASt}{κ':aS}{a:Act}{w':World}(hs:Sim (bodyC κ ak H w (NM D)) κ' s a w')(q:BQ P fn.results.toList H.length T hJ s.tmps s.heap)(d:w'.heap[D]? =some (.deferred (some [])))(n:w.heap.size<=D)(f:∀l,at? κ' l=some D->¬live (obj? s.heap l)):
  LeavesInM Fence.wide 3 P fn a.tmps (asn κ ak H T hJ w) a.defers .returning w':=by have b:=hs.alf d (λh=>qDb _ (qAB h.1 n)) f;rw[hs.defers];let⟨u,v,c⟩:=YM e j _ q b;exact⟨by simp,.inl ⟨_,_,rfl,run_takeDeferred d,u,v,c⟩⟩
def aCx(f:Entry κ ak H w)(j:H.length<=H'.length){s:ASt}{κ':aS}{a:Act}{w':World}(hs:Sim (bodyC κ ak H w (NM D)) κ' s a w')(A:∃y d,Le H.length s.tmps s.heap y d/\Le H.length [] d [] H')(z:w'.heap[D]? =some (.deferred (some [])))(g:w.heap.size<=D)(B:∀l,at? κ' l=some D->¬live (obj? s.heap l)):
  LeavesInM Fence.wide 3 P fn a.tmps (aCp κ ak H H' v w) a.defers (.panicking [{v,recovered:=false}]) w':=by
 have i:=hs.alf z (λh=>qDb _ (qAB h.1 g)) B;have k:(bodyC κ ak H w (NM D)).k0.length<=H.length:=qBm f.klen;let⟨y,d,C,E⟩:=A;let⟨e,m⟩:=C _ κ' a _ k i;have x:Sim (bodyC κ ak H w (NM D)) e ⟨[],d⟩ {tmps:=#[],defers:=a.defers} _:={m with
  len:=rfl
  slot:=λn g=>by cases g}
 let⟨o,c⟩:=E _ e _ _ k x;rw[hs.defers];refine⟨by simp,.inl ⟨_,_,rfl,run_takeDeferred z,o,rfl,c.klen,j,c.kext,c.resv,c.obj,?_,c.apart,c.bound,λb F p=>c.old b ⟨F,p⟩,c.ny,c.pvsub,c.os,c.tape,c.output⟩⟩;intro l b d G;have q:=c.own l b d G;by_cases t:b<w.heap.size;·right;apply qAn;intro r;exact q ⟨t,λI J u=>r ⟨I,J,u⟩⟩
 grind
def aCN{rest:Code}{s:ASt}{d:aS}{a:Act}{o W:World}(n:Entry κ ak H w)(p:H.length<=hJ.length)(hs:Sim (bodyC κ ak H w []) d s a o)(A:Go.RowKit.Below o.heap.size o W)(r:o.heap.size<=D)(z:W.heap[D]? =some (.deferred (some [])))
  (B:AW P H.length rest (asq P fn.results.toList H.length T hJ) s.tmps s.heap):rest.wp P (bodyPostM Fence.wide 3 P fn (asn κ ak H T hJ w)) {a with defers:=NM D} W:=by
 have t:(bodyC κ ak H w (NM D)).k0.length<=H.length:=qBm n.klen;have k:=(hs.grow A).NK (NM D);have u:w.heap.size<=D:=qAs hs.size r;have v:=k.rk (D:=D) (qBi.1 z).1 λl h=>by have:=hs.bound l D h;omega
 refine wp_mono (B ((bodyC κ ak H w (NM D)).rk d s W D) d _ W t v) ?_;have m:∀(g:ASt) (b:aS) (i:Act) (j:World),BQ P fn.results.toList H.length T hJ g.tmps g.heap->Sim ((bodyC κ ak H w (NM D)).rk d s W D) b g i j->LeavesInM Fence.wide 3 P fn i.tmps (asn κ ak H T hJ w) i.defers .returning j:=λg b i j q f=>by let⟨x,y,C⟩:=k.aHW f;exact apN n p x q (y.trans z) u C
 rintro e i j ⟨g,b,q,f⟩;cases e with|normal=>exact m g b i j q f|ret=>exact m g b i j q f|exit id=>exact q.elim|goto l=>exact q.elim|panic c=>exact q.elim|outgrown=>exact q.elim
def aBW{rest:Code}{s:ASt}{b:aS}{a:Act}{d W:World}(n:Entry κ ak H w)(j:H.length<=H'.length)(hs:Sim (bodyC κ ak H w []) b s a d)(r:Go.RowKit.Below d.heap.size d W)(f:d.heap.size<=D)(q:W.heap[D]? =some (.deferred (some [])))
  (t:AW P H.length rest (aC2 v H.length H') s.tmps s.heap):rest.wp P (bodyPostM Fence.wide 3 P fn (aCp κ ak H H' v w)) {a with defers:=NM D} W:=by
 have k:(bodyC κ ak H w (NM D)).k0.length<=H.length:=qBm n.klen;have c:=(hs.grow r).NK (NM D);have g:w.heap.size<=D:=qAs hs.size f;have i:=c.rk (D:=D) (qBi.1 q).1 λl h=>by have:=hs.bound l D h;omega
 refine wp_mono (t ((bodyC κ ak H w (NM D)).rk b s W D) b _ W k i) ?_;rintro e z A ⟨B,u,⟨rfl,x⟩,m⟩;let⟨o,p,y⟩:=c.aHW m;exact aCx n j o x (p.trans q) g y
def aEv{s:ASt}{c:aS}{a:Act}{b W:World}(e:Entry κ ak H w)(j:H.length<=hJ.length)(hs:Sim (bodyC κ ak H w []) c s a b)(f:Go.RowKit.Below b.heap.size b W)(d:b.heap.size<=D)(g:W.heap[D]? =some (.deferred (some [])))
  (q:BQ P fn.results.toList H.length T hJ s.tmps s.heap):bodyPostM Fence.wide 3 P fn (asn κ ak H T hJ w) .ret {a with defers:=NM D} W:=
 apN e j ((hs.grow f).NK (NM D)) q g (qAs hs.size d) λl h=>by have:=hs.bound l D h;omega
end
section
variable {P:Program}{te:Nat}{θ:Nat→B8}{n:Nat}{hs:List (Nat×Hn)}{E:B6}{ps eds:Be}{h0:A0}{c:Code}{p:Nat}{s:DS}{R:Type}{f:DS→Option R}{τ:Nat→TI}
def aEA{rvs:List ResultVar}{T:As}{j:A0}{y:R}(u:τ=TI.of P)(D:∀e∈E,ah P te e)(v:uf P te=true)(i:P.follows .mixedOrders=true)(w:fO (aD ps) [] [] eds=true)(F:h0.length=aD ps)(G:Ji (aD ps) h0=true)(x:St (aD ps) h0 s)
  (h:exe ⟨τ,θ,n,RT (some eds) R,hs,aD ps,te,U7 (aD ps) (some eds)⟩ E (λs=>RT.ok (some eds) (f s)) c _ p s some (λe s=>match e with| .normal=>RT.ok (some eds) (f s)|_=>none)=some (PZ.ok y)) (A:∀s,St (aD ps) h0 s->f s=some y->BQ P rvs (aD ps) T j (aU s.h s.t) (aB s.h)):
  AW P (aD ps) c (asq P rvs (aD ps) T j) (aU s.h s.t) (aB s.h):=by
 subst u;have d:∀{t B:An} {h C:A6},Le (aD ps) t h B C->BQ P rvs (aD ps) T j B C->BQ P rvs (aD ps) T j t h:=λH ⟨I,J,K,L,M,N⟩=>⟨I,J,K,H.trans L,M,N⟩;have a:∀{o:Option R},RT.ok (some eds) o=some (PZ.ok y)->o=some y:=λ{o} h=>by cases o with|none=>cases h|some S=>cases h;rfl
 refine(WL (n:=n) (hs:=hs) (te:=te) (pn:=U7 (aD ps) (some eds)) (ret:=λs=>RT.ok (some eds) (f s)) (m:=aD ps) (h0:=h0) D v i c _ p s _ _ _ x h).mono λe t U O=>?_;cases O with|ret k b q g=>cases g;exact d k (A _ b (a q))|qd k b q g=>cases g;let⟨z,Q,_⟩:=aem (r:=[]) (h2:=[]) w F G b q;cases Q|go k b q g=>cases e with|normal=>exact d k (A _ b (a g))|exit id=>cases g|goto l=>cases g|ret=>cases g|panic c=>cases g|outgrown=>cases g
def aFb{r:As}{h2:A0}{v:Int}{z:jI (bM eds)}(d:τ=TI.of P)(u:∀e∈E,ah P te e)(j:uf P te=true)(i:P.follows .mixedOrders=true)(w:fO (aD ps) [] [] eds=true)(x:h0.length=aD ps)(y:Ji (aD ps) h0=true)(k:St (aD ps) h0 s)
  (h:exe ⟨τ,θ,n,RT (some eds) R,hs,aD ps,te,U7 (aD ps) (some eds)⟩ E (λs=>RT.ok (some eds) (f s)) c _ p s some (λe s=>match e with| .normal=>RT.ok (some eds) (f s)|_=>none)=some (PZ.er v z)) (A:dW bS eds (fF _ z) (dM 0) h0=(r,h2)):
  AW P (aD ps) c (aC2 (Cz te v) (aD ps) (aB h2)) (aU s.h s.t) (aB s.h):=by
 subst d;have a:∀{o:Option R},RT.ok (some eds) o=some (PZ.er v z)->False:=λ{o} h=>by cases o with|none=>cases h|some F=>cases h
 refine(WL (n:=n) (hs:=hs) (te:=te) (pn:=U7 (aD ps) (some eds)) (ret:=λs=>RT.ok (some eds) (f s)) (m:=aD ps) (h0:=h0) u j i c _ p s _ _ _ k h).mono λe t G B=>?_;cases B with|ret l q g b=>cases b;exact(a g).elim|qd l q g b=>cases b;let⟨z,C,D⟩:=aem (r:=[]) (h2:=[]) w x y q g;cases C;exact⟨rfl,_,_,l,D r h2 A⟩|go l q g b=>grind
end
section
open Go Go.Proofs Go.RowKit Go.Shelf
attribute [local go_sem] Oper.semAt_some
structure Cells5 where
 nm:By
 k:Int
 n:Int
 s:By
 ad:Option Addr
 len:Nat
 cap:Nat
def Cells5.a(x:Cells5):Value:=.string ⟨x.nm.toArray⟩
def Cells5.b(x:Cells5):Value:=.int .i64 x.k
def Cells5.c(x:Cells5):Value:=.int .i64 x.n
def Cells5.d(x:Cells5):Value:=.string ⟨x.s.toArray⟩
def Cells5.e(x:Cells5):Value:=.slice x.ad x.len x.cap
def Cells5.agg(x:Cells5):Value:=.agg #[x.a,x.b,x.c,x.d,x.e]
def UJ(len:Nat)(k:Nat):A5:=(List.range k).map λj=>len - 1 - j
def ahy(len:Nat)(k:Nat):UJ len (k+1)=UJ len k++[len - 1 - k]:=by simp[UJ,List.range_succ]
def ahO(len:Nat)(k:Nat):(UJ len k).length=k:=by simp[UJ]
set_option maxRecDepth 100000 in
set_option maxHeartbeats 2000000 in
def aBo(F:Fence)(n:Nat)(h7:F.fn 303)(hro:F.round=none)(hn:1≤n)(l Bs n₀ b len cap:Nat)(z:Nat→Cells5)(hreach:len≤140737488355328)(hb:b<n₀)(hBn:Bs<n₀)(J Jx:A5→World→Prop)
  (hY:∀pre (x:Nat) W,J pre W→pre.length<len→YieldAt F (n - 1) Tryz.prog l #[.int .i64 (x:Int),(z x).agg] W fun e W'=>
   (e=.returned (.bool true)∧J (pre++[x]) W'∧Below n₀ W W')∨(e=.returned (.bool false)∧Jx (pre++[x]) W'))
  (W:World) (hBs:W.cell? ⟨Bs,0,none⟩=some (.slice (some ⟨b,0,none⟩) len cap))
  (hc:∀j,j<len→W.cell? ⟨b,j*5,none⟩=some (z j).a∧W.cell? ⟨b,j*5+1,none⟩=some (z j).b∧W.cell? ⟨b,j*5+2,none⟩=some (z j).c∧W.cell? ⟨b,j*5+3,none⟩=some (z j).d∧W.cell? ⟨b,j*5+4,none⟩=some (z j).e) (h0:J [] W):
  CallsIn F n Tryz.prog 303 #[.func (.yield l) #[] #[],.pointer (some ⟨Bs,0,none⟩)] W fun e W'=>(∃v,e=.returned v)∧
   ((∃ys,ys=UJ len len∧J ys W')∨(∃pre,(∃k,k≤len∧pre=UJ len k)∧Jx pre W')):=by
 refine callsIn_of_wp Tryz.func303 rfl h7 ?_ hro;simp only[Tryz.ntmps303,qDg,qAp,qAA,Nat.reduceAdd,Nat.reduceSub,qDD,qDE,List.push_toArray,List.append_toArray,qAo,qAM];have hw1:wrap64 ((len:Int) - 1)=(len:Int) - 1:=by unfold wrap64;omega
 gi_wp2
 gi_loopw [3] (fun i wr=>∃k:Nat,k≤len∧i=.int .i64 ((len:Int) - 1 - k)∧J (UJ len k) wr∧Below n₀ W wr)
  (fun i _=>(intOf i+1).toNat)
 case atStart=>exact⟨0,qAZ _,by simp,h0,Below.refl _ _⟩
 case round=>
  obtain⟨k,hk,rfl,hJs,hnx⟩:=hrel;have hBs':=(hnx.cell (p:=⟨Bs,0,none⟩) hBn).trans hBs;by_cases hlt:k<len
  ·let⟨fn,tmps,assign,body,hy,hR⟩:=hY _ (len - 1 - k) wr hJs (by rw[ahO];exact hlt);obtain⟨i,hi⟩:∃i,i=len - 1 - k:=⟨_,rfl⟩;have hi1:(len:Int) - 1 - k=(i:Int):=by omega
   rw[←hi]at hy hR;rw[hi1];let⟨c1,c2,c3,c4,c5⟩:=hc i Cl;have c1:=(hnx.cell (p:=⟨b,i*5,none⟩) hb).trans c1;have c2:=(hnx.cell (p:=⟨b,i*5+1,none⟩) hb).trans c2;have c3:=(hnx.cell (p:=⟨b,i*5+2,none⟩) hb).trans c3;have c4:=(hnx.cell (p:=⟨b,i*5+3,none⟩) hb).trans c4;have c5:=(hnx.cell (p:=⟨b,i*5+4,none⟩) hb).trans c5;have hil:i<len:=by omega
   dsimp only[Cells5.agg]at hy;have hi2:i+k+1=len:=by omega
   clear hi hi1
   gi_wp2
   refine hR.mono ?_;have hi3:i=len - 1 - k:=by omega
   rintro e W3 (⟨rfl,hJ3,hk3⟩|⟨rfl,hJx3⟩)
   ·gi_wp2
    go_roundw
    case rel=>exact⟨k+1,by omega,by congr 1;omega,by rw[ahy,←hi3];exact hJ3,hnx.trans hk3⟩
    case measure=>simp[intOf];omega
   gi_wp2
   refine bodyPost_ret (results_none rfl _ _ _) rfl ?_;exact⟨⟨_,rfl⟩,.inr ⟨_,⟨k+1,by omega,by rw[ahy,←hi3]⟩,hJx3⟩⟩
  obtain rfl:k=len:=by omega
  have hi1:(k:Int) - 1 - k= -1:=by omega
  rw[hi1]
  gi_wp2
  go_end0
  exact⟨⟨_,rfl⟩,.inl ⟨_,rfl,hJs⟩⟩
set_option maxRecDepth 100000 in
set_option maxHeartbeats 1000000 in
def arN(F:Fence)(n:Nat)(a:F.fn 303)(h:F.round=none)(l b:Nat)(d:Option Addr)(cap:Nat)(J:World->Prop)(W:World)(s:W.cell? ⟨b,0,none⟩=some (.slice d 0 cap))(h0:J W):
  CallsIn F n Tryz.prog 303 #[.func (.yield l) #[] #[],.pointer (some ⟨b,0,none⟩)] W λe w=>(∃v,e=.returned v)/\J w:=by
 refine callsIn_of_wp Tryz.func303 rfl a ?_ h;simp only[Tryz.ntmps303,qDg,qAp,qAA,Nat.reduceAdd,Nat.reduceSub,qDD,qDE,List.push_toArray,List.append_toArray,qAo,qAM]
 gi_wp2
 gi_loopw [3] (λi r=>i=.int .i64 (-1)/\J r) (λ_ _=>0)
 case atStart=>exact⟨by rfl,h0⟩
 case round=>
  obtain⟨rfl,j⟩:=hrel
  gi_wp2
  go_end0
  exact⟨⟨_,rfl⟩,j⟩
end
section
open Go Go.Proofs Go.RowKit Go.Shelf
attribute [local go_sem] Oper.semAt_some
def QM(w:World)(b:Nat)(x:Cells5):World:=(((w.setCell ⟨b,0,none⟩ x.b).setCell ⟨b,1,none⟩ x.c).setCell ⟨b,2,none⟩ x.d).setCell ⟨b,3,none⟩ x.e
def Ei{B:Nat}{A W:World}(h:Below B A W)(a:Addr)(v:Value)(c:a.block<B):Below B (A.setCell a v) (W.setCell a v):=
 ⟨h.os,h.tape,h.output,by simpa[World.setCell]using h.size,λk b=>by
  by_cases e:k=a.block;·subst e;simp only[World.setCell,qBI,h.block _ b]
  rw[Below.heap_setCell _ _ _ _ e,Below.heap_setCell _ _ _ _ e,h.block k b]⟩
def awT{B:Nat}{A W:World}(h:Below B A W){b:Nat}(x:Cells5)(a:b<B):Below B (QM A b x) (QM W b x):=
 Ei (Ei (Ei (Ei h _ _ a) _ _ a) _ _ a) _ _ a
def aIB(l:Array Value)(h:l.size=74):∃f:Nat->Value,l=((List.range 74).map f).toArray:=by
 refine⟨λi=>l.getD i undef,?_⟩;apply Array.ext;·simp[h]
 simp_all
def asF:Code:=.region 2 #[{dst:=some 6,op:=.alloc 222,type:=0,pos:= "eval.go:373",after:=#[],guard:=none},{dst:=none,op:=.store 222 (.tmp 6) (.tmp 18),type:=0,pos:= "eval.go:373",after:=#[{on:=0,ground:=.data},{on:=0,ground:=.phase}],guard:=none}] false
def axT:Code:=.block 1 ((Code.region 3 #[{dst:=some 19,op:=.fieldAddr 222 (.tmp 6) 0,type:=0,pos:= "eval.go:374",after:=#[],guard:=none},{dst:=some 20,op:=.load 9 (.tmp 19),type:=9,pos:= "eval.go:374",after:=#[{on:=0,ground:=.data}],guard:=none},{dst:=some 21,op:=.load 9 (.tmp 3),type:=9,pos:= "eval.go:374",after:=#[],guard:=none},{dst:=some 22,op:=.binOp .eql 9 (.tmp 20) (.tmp 21) 9,type:=4,pos:= "eval.go:374",after:=#[{on:=1,ground:=.data},{on:=2,ground:=.data}],guard:=none}] false).seq
 (.cond (.tmp 22) ((Code.region 4 #[{dst:=some 23,op:=.fieldAddr 222 (.tmp 6) 1,type:=0,pos:= "eval.go:375",after:=#[],guard:=none},{dst:=some 24,op:=.load 40 (.tmp 23),type:=40,pos:= "eval.go:375",after:=#[{on:=0,ground:=.data}],guard:=none},{dst:=none,op:=.store 40 (.tmp 4) (.tmp 24),type:=0,pos:= "eval.go:375",after:=#[{on:=1,ground:=.data},{on:=0,ground:=.phase},{on:=1,ground:=.phase}],guard:=none}] false).seq .ret) .skip))
section
variable (f:Nat→Value)(z:Nat→Cells5)(name:By)(b3 b4 len:Nat)(w:World)
def Iz(p:A5)(W:World):Prop:=(∀j∈p,(z j).nm≠name)/\Below w.heap.size w W
def Ixz(c:Code)(r:A5)(W:World):Prop:=c=.ret/\∃p j,r=p++[j]/\(z j).nm=name/\(∀i∈p,(z i).nm≠name)/\Below w.heap.size (QM w b4 (z j)) W
def tm6(x:Nat)(b:Nat):Array Value:=((((List.range 74).map f).toArray.setIfInBounds 17 (.int .i64 (x:Int))).setIfInBounds 18 (z x).agg).setIfInBounds 6 (.pointer (some ⟨b,0,none⟩))
def Axz(x:Nat)(a:Act)(W:World):Prop:=∃b,w.heap.size<=b/\a={tmps:=tm6 f z x b,defers:=[]}/\W.cell? ⟨b,0,none⟩=some (z x).a/\W.cell? ⟨b,1,none⟩=some (z x).b/\W.cell? ⟨b,2,none⟩=some (z x).c/\W.cell? ⟨b,3,none⟩=some (z x).d/\W.cell? ⟨b,4,none⟩=some (z x).e
set_option maxRecDepth 100000 in
set_option maxHeartbeats 4000000 in
def aB9(F:Fence)(l n:Nat)(x:Nat)(W:World)(c:Below w.heap.size w W)(K:Act->World->Prop)
  (k:∀b a,KeepsFrom w.heap.size W a->Below w.heap.size W a->Axz f z w x b a->K b a):
  asF.wpIn (F.inRound l) n Tryz.prog (Exit.then K (λ_ _ _=>False)) {tmps:=(((List.range 74).map f).toArray.setIfInBounds 17 (.int .i64 (x:Int))).setIfInBounds 18 (z x).agg,defers:=[]} W:=by
 unfold asF Cells5.agg Cells5.a Cells5.b Cells5.c Cells5.d Cells5.e;simp only[List.range,List.range.loop,List.map]
 gi_wp2
 have h:=c.size;exact k _ _ ((KeepsOthers.alloc W _).from _) ((Below.refl _ W).alloc h _) ⟨W.heap.size,h,rfl,by simp only[World.cell?,World.alloc_heap_new];rfl,by simp only[World.cell?,World.alloc_heap_new];rfl,by simp only[World.cell?,World.alloc_heap_new];rfl,by simp only[World.cell?,World.alloc_heap_new];rfl,by simp only[World.cell?,World.alloc_heap_new];rfl⟩
set_option maxRecDepth 100000 in
set_option maxHeartbeats 4000000 in
def aF9(F:Fence)(l n:Nat)(r:A5)(x:Nat)(t:Act)(W:World){a:Array Value}{ty:TypeId}(v:f 3=.pointer (some ⟨b3,0,none⟩))(y:f 4=.pointer (some ⟨b4,0,none⟩))
  (m:b3<w.heap.size) (b:b4<w.heap.size) (o:w.cell? ⟨b3,0,none⟩=some (.string ⟨name.toArray⟩)) (q:w.heap[b4]? =some (.cells a ty (0,0))) (A:a.size=4) (B:Iz z name w r W) (hA:Axz f z w x t W):
  axT.wpIn (F.inRound l) n Tryz.prog (ownPostG w.heap.size (Below w.heap.size) (Iz z name w) (Ixz z name b4 w) (r++[x]) W) t W:=by
 obtain⟨E,C,rfl,G,H,I,J,K⟩:=hA;let⟨d,g⟩:=B;have u:W.cell? ⟨b3,0,none⟩=some (.string ⟨name.toArray⟩):=(g.cell (p:=⟨b3,0,none⟩) m).trans o;have c:W.heap[b4]? =some (.cells a ty (0,0)):=(g.block b4 b).trans q;have e:∀i,i<4->W.cell? ⟨b4,i,none⟩=some (a.getD i undef)/\W.frozen? ⟨b4,i,none⟩=false:=λi L=>by
  constructor
  ·simp[World.cell?,c,Array.getD,show i<a.size by omega]
  simp[World.frozen?,c]
 have M:=e 0 Cl;have N:=e 1 Cl;have O:=e 2 Cl;have P:=e 3 Cl;clear e;unfold axT tm6 Cells5.agg;unfold Cells5.a Cells5.b Cells5.c Cells5.d Cells5.e at *;simp only[List.range,List.range.loop,List.map];rw[v,y];by_cases k:(z x).nm=name
 ·have s:((z x).nm==name)=true:=by simpa using k
  gi_wp2
  refine⟨((((KeepsOthers.setCell _ _ _).trans (KeepsOthers.setCell _ _ _)).trans (KeepsOthers.setCell _ _ _)).trans (KeepsOthers.setCell _ _ _)).from _,rfl,r,x,rfl,k,d,?_⟩;exact awT g (z x) b
 have s:((z x).nm==name)=false:=by simpa using k
 gi_wp2
 refine⟨KeepsFrom.refl _ _,Below.refl _ _,λj D=>?_,g⟩;rcases qAr.1 D with h|h
 ·exact d j h
 rw[qAK.1 h];exact k
end
section
variable (z:Nat→Cells5)(name:By)(len cap b:Nat)(ad:Option Addr)
def aIQ(F:Fence)(n:Nat)(h7:F.fn 303)(hro:F.round=none)(hn:1≤n)(bk:Nat)(w:World)(hreach:len≤140737488355328)(hbk:bk<w.heap.size)(hb:b<w.heap.size∨len=0)(had:len=0∨ad=some ⟨b,0,none⟩)(hck:w.cell? ⟨bk,0,none⟩=some (.slice ad len cap))
  (hc:∀j,j<len→w.cell? ⟨b,j*5,none⟩=some (z j).a∧w.cell? ⟨b,j*5+1,none⟩=some (z j).b∧w.cell? ⟨b,j*5+2,none⟩=some (z j).c∧w.cell? ⟨b,j*5+3,none⟩=some (z j).d∧w.cell? ⟨b,j*5+4,none⟩=some (z j).e):
  SeqStopsK F n Tryz.prog 303 #[.pointer (some ⟨bk,0,none⟩)] (fun x:Nat=>#[Value.int .i64 (x:Int),(z x).agg]) (Below w.heap.size) (fun xs=>xs=UJ len len) (fun pre=>∃k,k≤len∧pre=UJ len k) len w:=fun l J Jx W hW _ _ hY h0=>by
 have hck':=(hW.cell (p:=⟨bk,0,none⟩) hbk).trans hck;rcases qCY len with h|h
 ·subst h;exact(arN F n h7 hro l bk ad cap (J []) W hck' h0).mono fun e W' ⟨he,hj⟩=>⟨he,.inl ⟨_,rfl,hj⟩⟩
 have hb':=hb.resolve_right Cl;obtain rfl:=had.resolve_left Cl;refine(aBo F n h7 hro hn l bk w.heap.size b len cap z hreach hb' hbk J Jx hY W hck' (fun j hj=>?_) h0).mono ?_
 ·let⟨c1,c2,c3,c4,c5⟩:=hc j hj;exact⟨(hW.cell (p:=⟨b,j*5,none⟩) hb').trans c1,(hW.cell (p:=⟨b,j*5+1,none⟩) hb').trans c2,(hW.cell (p:=⟨b,j*5+2,none⟩) hb').trans c3,(hW.cell (p:=⟨b,j*5+3,none⟩) hb').trans c4,(hW.cell (p:=⟨b,j*5+4,none⟩) hb').trans c5⟩
 rintro e W' ⟨he,⟨ys,rfl,hj⟩|⟨pre,⟨k,hk,rfl⟩,hj⟩⟩
 ·exact⟨he,.inl ⟨_,rfl,hj⟩⟩
 exact⟨he,.inr ⟨_,⟨k,hk,rfl⟩,hj⟩⟩
def aA6{len k:Nat}{p:A5}{j:Nat}(c:k<=len)(h:UJ len k=p++[j]):j<len/\∀i,j<i->i<len->i∈p:=by
 have l:k=p.length+1:=by have:=congrArg List.length h;rw[ahO]at this;simpa using this
 subst l;rw[ahy]at h;let⟨a,b⟩:=List.append_inj' h rfl;cases b;refine⟨by omega,λi d e=>?_⟩;rw[<-a];exact qAJ.2 ⟨len - 1 - i,qBW.2 Cl,by omega⟩
def aFx{len:Nat}(i:Nat)(h:i<len):i∈UJ len len:=qAJ.2 ⟨len - 1 - i,qBW.2 Cl,by omega⟩
def aGU{Q:Exit->Act->World->Prop}{a:Act}{w:World}{bk b3 b4:Nat}{c4:Array Value}{ty:TypeId}(ha:a.tmps.size=74)(G:a.tmps.getD 16 undef=.func (.func 303) #[] #[.pointer (some ⟨bk,0,none⟩)])
  (H:a.tmps.getD 3 undef=.pointer (some ⟨b3,0,none⟩)) (h4:a.tmps.getD 4 undef=.pointer (some ⟨b4,0,none⟩))
  (I:b3<w.heap.size) (J:b4<w.heap.size) (L:w.cell? ⟨b3,0,none⟩=some (.string ⟨name.toArray⟩)) (M:w.heap[b4]? =some (.cells c4 ty (0,0))) (O:c4.size=4)
  (m:len<=140737488355328) (P:bk<w.heap.size) (hb:b<w.heap.size∨len=0) (R:len=0∨ad=some ⟨b,0,none⟩) (T:w.cell? ⟨bk,0,none⟩=some (.slice ad len cap))
  (hc:∀j,j<len->w.cell? ⟨b,j*5,none⟩=some (z j).a/\w.cell? ⟨b,j*5+1,none⟩=some (z j).b/\w.cell? ⟨b,j*5+2,none⟩=some (z j).c/\w.cell? ⟨b,j*5+3,none⟩=some (z j).d/\w.cell? ⟨b,j*5+4,none⟩=some (z j).e)
  (q:(∀j,j<len->(z j).nm≠name)->∀D W,w.heap.size<=D->Below w.heap.size w W->W.heap[D]? =some (.deferred (some []))->Q .normal {a with defers:={target:=.collected D,args:=#[]}::a.defers} W)
  (u:∀j,j<len->(z j).nm=name->(∀i,j<i->i<len->(z i).nm≠name)->∀D W,w.heap.size<=D->Below w.heap.size (QM w b4 (z j)) W->W.heap[D]? =some (.deferred (some []))->Q .ret {a with defers:={target:=.collected D,args:=#[]}::a.defers} W):
  (Code.rangeFunc (.tmp 16) #[17,18] asF axT).wpIn Fence.wide 3 Tryz.prog Q a w:=by
 let⟨tm,ds⟩:=a;let⟨f,hf⟩:=aIB tm ha;subst hf;have U:f 16=.func (.func 303) #[] #[.pointer (some ⟨bk,0,none⟩)]:=by simpa[Array.getD]using G
 have f3:f 3=.pointer (some ⟨b3,0,none⟩):=by simpa[Array.getD]using H
 have f4:f 4=.pointer (some ⟨b4,0,none⟩):=by simpa[Array.getD]using h4
 have hs4w:(QM w b4 (z 0)).heap.size=w.heap.size:=by simp[QM]
 refine wpIn_rangeFunc_ownH (α:=Nat) (F:=Fence.wide) (gf:=303) (lb:=#[.pointer (some ⟨bk,0,none⟩)]) (encs:=λx:Nat=>#[Value.int .i64 (x:Int),(z x).agg]) (Kp:=Below w.heap.size) (S:=λxs=>xs=UJ len len) (Sp:=λd=>∃k,k<=len/\d=UJ len k) (N:=len) (w0:=w)
  rfl Cl (by simpa[Act.eval,Array.getD]using U) trivial (enters_of Tryz.func303 Cs rfl) (aIQ z len cap b ad Fence.wide 2 trivial rfl Cl bk w m P hb R T hc) belowK_t (belowK_b (qAd _)) (Below.refl _ _) (λ_=>rfl)
  (Iz z name w) (Ixz z name b4 w) ?_ ?_ ⟨λj V=>(by cases V),Below.refl _ _⟩ (Axz f z w) ?_ ?_ ?_ ?_ ?_
 ·exact λs X Y v y n A=>⟨y.1,ownFrom_below (qAd _) (qAd _) s X Y v y.2 n A⟩
 ·rintro c s X Y v ⟨e,p,j,Z,e3,e4,y⟩ n A;exact⟨e,p,j,Z,e3,e4,y.grown n (by have:=y.size;simp only[QM,World.size_setCell]at this;exact this) λk B=>(A k B).1⟩
 ·rintro x C s X Y v ⟨b6,h6,rfl,k1,k2,k3,k4,k5⟩ n A;have g:=λr e=>(A r e).2;exact⟨b6,h6,rfl,cell_kept k1 n g,cell_kept k2 n g,cell_kept k3 n g,cell_kept k4 n g,cell_kept k5 n g⟩
 ·intro l d x W K o hK;have h:=aB9 f z w Fence.wide l 1 x W o.2 K λC W' h1 E H=>hK C W' h1 E ⟨o.1,o.2.trans E⟩ H;refine(congrArg (λt=>Code.wpIn (Fence.wide.inRound l) 1 Tryz.prog asF (Exit.then K λ_ _ _=>False) ⟨t,[]⟩ W) ?_).mpr h;simp
 ·intro l d x C W _ _ o hx _;exact aF9 f z name b3 b4 w Fence.wide l 1 d x C W f3 f4 I J L M O o hx
 ·rintro D xs W hD rfl o B;exact q (λj V=>o.1 j (aFx j V)) D W hD o.2 B
 rintro D c d W hD ⟨k,B,rfl⟩ ⟨rfl,p,j,Z,e3,e4,y⟩ hkD;let⟨h1,E⟩:=aA6 B Z;exact wpIn_ret (u j h1 e3 (λi hi1 hi2=>e4 i (E i hi1 hi2)) D W hD y hkD)
end
end
set_option maxRecDepth 100000
def Gy(n:Nat):Ent:=⟨246,2,[.r 0 .S,.r 1 .I],1,[.r 0 .Lval],Af,none,none,λx=>MH n x.1 x.2,λr=>r⟩
def aoq(n:Nat):ah Tryz.prog TE (Gy n):=mk n [(58,.lp [.w (.own .val),.r 5 (.own 0),.r 8 .I] 0 [.w (.own .val),.r 5 (.own 0)])] (e:=Gy (n)) (inn:=some) .n @Tryz.func246 Cs sm λ_=>by kernel_rfl
def Qa(n:Nat):Ent:=⟨247,2,[.r 0 .Ls,.r 1 .S],1,[.r 0 .I],Int,none,none,λx=>Y1 n x.1 x.2,λr=>r⟩
def awJ(n:Nat):ah Tryz.prog TE (Qa n):=mk n [(26,.lp [.r 8 .I] 0 [])] (e:=Qa (n)) (inn:=some) .n @Tryz.func247 Cs sm λ_=>by kernel_rfl
def aDd(_:Nat):Ent:=⟨245,1,[.r 0 (.psl 0 5),.w (.arr .bnd)],1,[.r 0 (.func 303 [.ptr 1 0]),.w (.box [.psl 0 5])],Unit,none,none,λ_=>some (),λ_=>()⟩
def aLd(n:Nat):ah Tryz.prog TE (aDd n):=mk n [] (e:=aDd n) (inn:=some) .n @Tryz.func245 Cs sm λ_=>by kernel_rfl
def aFH:mQ Tryz.prog 152=true:=by kernel_rfl
section
variable (n:Nat)(name:Str)(cs:A7)(ds:A4)(sz:A2)(mp:List (Str×Val))(bs:At)
def xY:A0:=[.box [.lf (.l .car) cs,.lf (.l .dec) ds,.lf (.l .i) sz,.mapr 1,.psl 2 5 none],.mp .val mp,.arr .bnd bs]
def lt0:As:=.ptr 0 0:: .lf .s name::List.replicate 72 (.tup [])
def ltA:As:=.ptr 0 0:: .lf .s name:: .tup []:: .ptr 3 0:: .ptr 4 0::List.replicate 69 (.tup [])
def lhA:A0:=xY cs ds sz mp bs++[.box [.lf .s name],.box [.lf (.n .i64) 0,.lf (.n .i64) 0,.lf .s [],.nils]]
def V7:As:=.ptr 0 0:: .lf .s name:: .tup []:: .ptr 3 0:: .ptr 4 0::List.replicate 7 (.tup [])++[.ptr 0 0,.ptr 0 0,.ptr 0 4,.psl 2 5 none,.func 303 [.ptr 5 0]]++List.replicate 57 (.tup [])
def KC:A0:=lhA name cs ds sz mp bs++[.box [.psl 2 5 none]]
def lhC(v:Val):A0:=[.box [.lf (.l .car) cs,.lf (.l .dec) ds,.lf (.l .i) sz,.mapr 1,.psl 2 5 none],.mp .val mp,.arr .bnd bs,.box [.lf .s name],.box [.lf (.n .i64) v.kind,.lf (.n .i64) v.n,.lf .s v.name,.lf (.l .val) v.kids],.box [.psl 2 5 none]]
noncomputable def YH:Code:=bdy Tryz.f152
def lqA:exe ⟨τ,θ,n,Unit,[],3,TE,λ_ _=>none⟩ [] (λ_=>none) (cL YH) (As×A0) 2 (lkS (lt0 name) (xY cs ds sz mp bs)) (λ_=>none) (λe s=>match e with| .normal=>some (s.t,s.h)|_=>none)=some (ltA name,lhA name cs ds sz mp bs):=by kernel_rfl
def lqB:exe ⟨τ,θ,n,Unit,[],3,TE,λ_ _=>none⟩ [aDd n] (λ_=>none) (cL (cL (cR YH))) (As×A0) 12 (lkS (ltA name) (lhA name cs ds sz mp bs)) (λ_=>none) (λe s=>match e with| .normal=>some (s.t,s.h)|_=>none)=some (V7 name,KC name cs ds sz mp bs):=by kernel_rfl
def lqI:exe ⟨τ,θ,n,PZ Val Unit,[(14,.jn [.r 7 (.ptr 6 0),.r 8 .B,.w (.box [.I,.I,.S,.Lval])] false),(122,.lp [.r 42 .I,.o 6 .dead] 2 [.o 6 .dead])],3,TE,U7 3 (some [])⟩ [Gy n,Qa n] (λs=>RT.ok (some []) (yK τ 3 Tryz.f152.results.toList (fB n).rs some s)) (cR (cR YH)) (PZ Val Unit) 7 (lkS (V7 name) (KC name cs ds sz mp bs)) some
  (λe s=>match e with| .normal=>RT.ok (some []) (yK τ 3 Tryz.f152.results.toList (fB n).rs some s)|_=>none)=adY n cs ds sz mp bs name:=by kernel_rfl
def lqC(v:Val):yK τ 3 Tryz.f152.results.toList (fB n).rs some ⟨V7 name,lhC name cs ds sz mp bs v,[],[],[],[],[],[]⟩=some (.mk v.kind v.n v.name v.kids):=by kernel_rfl
end
def ayU{C:Ctx}{κ:aS}{s:ASt}{a:Act}{w:World}(h:Sim C κ s a w){b:Nat}{d:At}(E:at? κ 2=some b)(F:obj? s.heap 2=.arr 5 (d.map (ET.enc .bnd))):
  ∃z:Nat->Cells5,∀j,(f:j<d.length)->(z j).nm=(d[j]).name/\w.cell? ⟨b,j*5,none⟩=some (z j).a/\w.cell? ⟨b,j*5+1,none⟩=some (z j).b/\w.cell? ⟨b,j*5+2,none⟩=some (z j).c/\w.cell? ⟨b,j*5+3,none⟩=some (z j).d/\w.cell? ⟨b,j*5+4,none⟩=some (z j).e/\
   Rel w κ (aH C.ak κ s.heap) (.int .i64 (d[j]).v.kind) (z j).b/\Rel w κ (aH C.ak κ s.heap) (.int .i64 (d[j]).v.n) (z j).c/\Rel w κ (aH C.ak κ s.heap) (.str (d[j]).v.name) (z j).d/\Rel w κ (aH C.ak κ s.heap) (.slice ((d[j]).v.kids.map bf) .shared) (z j).e:=by
 let⟨c,e,S,G,H,I,J⟩:=h.arr E F;simp only[qAi]at G H I J;have:∀j,∃x:Cells5,(f:j<d.length)->x.nm=(d[j]).name/\w.cell? ⟨b,j*5,none⟩=some x.a/\w.cell? ⟨b,j*5+1,none⟩=some x.b/\w.cell? ⟨b,j*5+2,none⟩=some x.c/\w.cell? ⟨b,j*5+3,none⟩=some x.d/\w.cell? ⟨b,j*5+4,none⟩=some x.e/\
   Rel w κ (aH C.ak κ s.heap) (.int .i64 (d[j]).v.kind) x.b/\Rel w κ (aH C.ak κ s.heap) (.int .i64 (d[j]).v.n) x.c/\Rel w κ (aH C.ak κ s.heap) (.str (d[j]).v.name) x.d/\Rel w κ (aH C.ak κ s.heap) (.slice ((d[j]).v.kids.map bf) .shared) x.e:=λj=>by
  by_cases f:j<d.length
  ·have q:∀i,i<5->w.cell? ⟨b,j*5+i,none⟩=some (c.getD (j*5+i) undef)/\Rel w κ (aH C.ak κ s.heap) ((ET.enc .bnd d[j]).getD i .unk) (c.getD (j*5+i) undef):=λi T=>by
    grind
   have K:ET.enc .bnd d[j]=[.str (d[j]).name,.int .i64 (d[j]).v.kind,.int .i64 (d[j]).v.n,.str (d[j]).v.name,.slice ((d[j]).v.kids.map bf) .shared]:=by
    show AV.str (d[j]).name::bf (d[j]).v=_;let⟨L,M,N,O⟩:=(d[j]).v;show _::bf (Val.mk L M N O)=_;rw[bf,Mc];rfl
   rw[K]at q;let⟨r,n⟩:=q 0 Cl;let⟨o,g⟩:=q 1 Cl;let⟨t,k⟩:=q 2 Cl;let⟨u,l⟩:=q 3 Cl;let⟨v,m⟩:=q 4 Cl;simp only[List.getD,qAG,qBp,qAw]at n g k l m;let⟨P,_⟩:=n.BK;let⟨y,_⟩:=g.uG;let⟨A,_⟩:=k.uG;let⟨B,_⟩:=l.BK;let⟨Q,p,D,_⟩:=m.mY;refine⟨⟨(d[j]).name,(d[j]).v.kind,(d[j]).v.n,(d[j]).v.name,Q,((d[j]).v.kids.map bf).length,p⟩,λ_=>⟨rfl,?_,?_,?_,?_,?_,?_,?_,?_,?_⟩⟩
   ·rw[P]at r;exact r
   ·rw[y]at o;exact o
   ·rw[A]at t;exact t
   ·rw[B]at u;exact u
   ·rw[D]at v;exact v
   ·rw[y]at g;exact g
   ·rw[A]at k;exact k
   ·rw[B]at l;exact l
   rw[D]at m;exact m
  exact⟨⟨[],0,0,[],none,0,0⟩,λh=>absurd h f⟩
 let⟨z,R⟩:=qCu this;exact⟨z,λj f=>R j f⟩
def ayx{s:At}{n:Str}(h:∀j (a:j<s.length),(s[j]).name≠n):s.reverse.find? (λb=>b.name==n)=none:=by
 rw[qCW];intro b c;obtain⟨j,a,rfl⟩:=qBF.1 (List.mem_reverse.1 c)
 grind
def aAf{s:At}{n:Str}{j:Nat}(d:j<s.length)(h:(s[j]).name=n)(h2:∀i,j<i->(a:i<s.length)->(s[i]).name≠n):s.reverse.find? (λb=>b.name==n)=some s[j]:=by
 have e:s=s.take j++s[j]::s.drop (j+1):=by rw[qEb,qDw]
 have:s.reverse=(s.drop (j+1)).reverse++s[j]::(s.take j).reverse:=by grind
 rw[this,List.find?_append,qCW.2,qCt,List.find?_cons_of_pos (by simpa using h)];intro b c;obtain⟨i,a,rfl⟩:=qBF.1 (List.mem_reverse.1 c)
 grind
def Iy{C:Ctx}{κ:aS}{s:ASt}{a:Act}{w:World}(h:Sim C κ s a w){l b j:Nat}{cs:An}{v f:AV}{u g:Value}(m:at? κ l=some b)(i:obj? s.heap l=.box cs)
  (n:Rel w κ (aH C.ak κ s.heap) f g):Rel (w.setCell ⟨b,j,none⟩ u) κ (aH C.ak κ (s.setObj l (.box (cs.set j v))).heap) f g:=by
 refine n.mono (Evo.setCell (.inr ⟨l,m,by rw[i];trivial⟩)) (dL.refl _) ?_;rintro x o (p|⟨k,d,c⟩) _;·exact .inl p
 by_cases e:l=k;·subst e;exact .inr ⟨l,d,by rw[i];trivial⟩
 simp only[ASt.setObj]at c;rw[obj?_set_other e]at c;exact .inr ⟨k,d,c⟩
section
variable (name:Str)(cs:A7)(ds:A4)(sz:A2)(mp:List (Str×Val))(bs:At)
def aBI{C:Ctx}{κ:aS}{a:Act}{w:World}(h:Sim C κ ⟨aU (KC name cs ds sz mp bs) (V7 name),aB (KC name cs ds sz mp bs)⟩ a w){b4:Nat}(k:at? κ 4=some b4)(x:Cells5)(v:Val)
  (r1:Rel w κ (aH C.ak κ (aB (KC name cs ds sz mp bs))) (.int .i64 v.kind) x.b) (r:Rel w κ (aH C.ak κ (aB (KC name cs ds sz mp bs))) (.int .i64 v.n) x.c) (r3:Rel w κ (aH C.ak κ (aB (KC name cs ds sz mp bs))) (.str v.name) x.d) (d:Rel w κ (aH C.ak κ (aB (KC name cs ds sz mp bs))) (.slice (v.kids.map bf) .shared) x.e):
  Sim C κ ⟨aU (lhC name cs ds sz mp bs v) (V7 name),aB (lhC name cs ds sz mp bs v)⟩ a (QM w b4 x):=by have s:=h.store (j:=0) (cs:=[.int .i64 0,.int .i64 0,.str [],.slice [] .nils]) k rfl cn r1;have e:=Iy (j:=0) (v:=.int .i64 v.kind) (u:=x.b) h (cs:=[.int .i64 0,.int .i64 0,.str [],.slice [] .nils]) k rfl r;have b:=Iy (j:=0) (v:=.int .i64 v.kind) (u:=x.b) h (cs:=[.int .i64 0,.int .i64 0,.str [],.slice [] .nils]) k rfl r3;have t:=Iy (j:=0) (v:=.int .i64 v.kind) (u:=x.b) h (cs:=[.int .i64 0,.int .i64 0,.str [],.slice [] .nils]) k rfl d;have c:=s.store (j:=1) (cs:=[.int .i64 v.kind,.int .i64 0,.str [],.slice [] .nils]) k rfl cn e;have b:=Iy (j:=1) (v:=.int .i64 v.n) (u:=x.c) s (cs:=[.int .i64 v.kind,.int .i64 0,.str [],.slice [] .nils]) k rfl b;have t:=Iy (j:=1) (v:=.int .i64 v.n) (u:=x.c) s (cs:=[.int .i64 v.kind,.int .i64 0,.str [],.slice [] .nils]) k rfl t;have f:=c.store (j:=2) (cs:=[.int .i64 v.kind,.int .i64 v.n,.str [],.slice [] .nils]) k rfl cn b;have t:=Iy (j:=2) (v:=.str v.name) (u:=x.d) c (cs:=[.int .i64 v.kind,.int .i64 v.n,.str [],.slice [] .nils]) k rfl t;exact f.store (j:=3) (cs:=[.int .i64 v.kind,.int .i64 v.n,.str v.name,.slice [] .nils]) k rfl cn t
def avR{κ:aS}{ak:bU}{w:World}{vs:List Value}{R:Ending→World→Prop}(hen:Entry κ ak (aB (xY cs ds sz mp bs)) w)(hvl:vs.length=(aU (xY cs ds sz mp bs) [.ptr 0 0,.lf .s name]).length)
  (hr:∀j,j<(aU (xY cs ds sz mp bs) [.ptr 0 0,.lf .s name]).length→Rel w κ (aH ak κ (aB (xY cs ds sz mp bs))) ((aU (xY cs ds sz mp bs) [.ptr 0 0,.lf .s name]).getD j .unk) (vs.getD j undef))
  (hdone:bs.reverse.find? (fun b=>b.name==name)=none→∀κ2 a w2 D W,Sim (bodyC κ ak (aB (xY cs ds sz mp bs)) w []) κ2 ⟨aU (KC name cs ds sz mp bs) (V7 name),aB (KC name cs ds sz mp bs)⟩ a w2→Go.RowKit.Below w2.heap.size w2 W→w2.heap.size≤D→W.heap[D]? =some (.deferred (some []))→(cR (cR YH)).wp Tryz.prog (bodyPostM Fence.wide 3 Tryz.prog Tryz.f152 R) {a with defers:=NM D} W)
  (hstop:∀b,bs.reverse.find? (fun b=>b.name==name)=some b→∀κ2 a w2 D W,Sim (bodyC κ ak (aB (xY cs ds sz mp bs)) w []) κ2 ⟨aU (lhC name cs ds sz mp bs b.v) (V7 name),aB (lhC name cs ds sz mp bs b.v)⟩ a w2→Go.RowKit.Below w2.heap.size w2 W→w2.heap.size≤D→W.heap[D]? =some (.deferred (some []))→bodyPostM Fence.wide 3 Tryz.prog Tryz.f152 R .ret {a with defers:=NM D} W):
  Calls Tryz.prog 152 vs.toArray w R:=by
 have hte:uf Tryz.prog TE=true:=by kernel_rfl
 have hmix:Tryz.prog.follows .mixedOrders=true:=by kernel_rfl
 have hr0:AW Tryz.prog 3 (cL YH) (nrm 3 (aU (lhA name cs ds sz mp bs) (ltA name)) (aB (lhA name cs ds sz mp bs))) (aU (xY cs ds sz mp bs) (lt0 name)) (aB (xY cs ds sz mp bs)):=
  WM yJ (fun e he=>by cases he) hte hmix (wW (h:=xY cs ds sz mp bs) (qAd 3)) (lqA 0 name cs ds sz mp bs)
 have hr1:AW Tryz.prog 3 (cL (cL (cR YH))) (nrm 3 (aU (KC name cs ds sz mp bs) (V7 name)) (aB (KC name cs ds sz mp bs))) (aU (lhA name cs ds sz mp bs) (ltA name)) (aB (lhA name cs ds sz mp bs)):=
  WM yJ (fun e he=>by rw[qAK.1 he];exact aLd 0) hte hmix (wW (h:=lhA name cs ds sz mp bs) (qAf rfl)) (lqB 0 name cs ds sz mp bs)
 have hkl:(bodyC κ ak (aB (xY cs ds sz mp bs)) w []).k0.length≤3:=qBm hen.klen;refine(callsIn_wide (n:=3)).1 (callsIn_of_wp_marks (fn:=Tryz.f152) (c:=(cL YH).seq (((cL (cL (cR YH))).seq (.block 0 (.rangeFunc (.tmp 16) #[17,18] asF axT))).seq (cR (cR YH)))) Tryz.func152 rfl trivial (wpIn_wide.2 ?_));have hsim:=UN (fn:=Tryz.f152) hen hvl hr;refine wp_seq (wp_mono (hr0 _ κ _ w hkl hsim) ?_);rintro e a w1 ⟨s,κ1,⟨rfl,hl⟩,hs1⟩;let⟨κ1,hs1⟩:=hl _ κ1 _ _ hkl hs1;refine wp_seq (wp_seq (wp_mono (hr1 _ κ1 _ w1 hkl hs1) ?_));rintro e a w2 ⟨s,κ2,⟨rfl,hl⟩,hs2⟩;let⟨κ2,hs2⟩:=hl _ κ2 _ _ hkl hs2;have hlen:a.tmps.size=74:=hs2.len;let⟨us,e16,hul,hur⟩:=(show Rel _ _ _ (.func 303 [.ptr 5 0]) _ from hs2.slot 16 (qAf rfl)).LD;let⟨b3,e3,k3⟩:=(show Rel _ _ _ (.ptr 3 0) _ from hs2.slot 3 (qAf rfl)).sD;let⟨b4,e4,k4⟩:=(show Rel _ _ _ (.ptr 4 0) _ from hs2.slot 4 (qAf rfl)).sD
 match us,hul with
 |[u],_=>
 have h5:=hur 0 cn;simp only[List.getD,qAG,qAw]at h5;obtain⟨bk,rfl,k5⟩:=h5.sD;let⟨c3,ty3,q3,l3,p3,r3⟩:=hs2.box (cs:=[.str name]) k3 rfl;let⟨c4,ty4,q4,l4,p4,r4⟩:=hs2.box (cs:=[.int .i64 0,.int .i64 0,.str [],.slice [] .nils]) k4 rfl;let⟨c5,ty5,q5,l5,p5,r5⟩:=hs2.box (cs:=[.psl 2 5 bs.length]) k5 rfl;have hc3:=p3 0 cn;let⟨e3',_⟩:=(show Rel _ _ _ (.str name) _ from r3 0 cn).BK;rw[e3']at hc3;have hc5:=p5 0 cn;have h5:Rel _ _ _ (.psl 2 5 bs.length) _:=r5 0 cn;generalize c5.getD 0 undef=cv at h5 hc5;cases h5 with
 |@psl _ _ _ cap ad g1 g2 g3=>
 obtain⟨b,z,hb,had,hz⟩:∃(b:Nat) (z:Nat→Cells5),(b<w2.heap.size∨bs.length=0)∧(bs.length=0∨ad=some ⟨b,0,none⟩)∧∀j,(hj:j<bs.length)→(z j).nm=(bs[j]).name∧w2.cell? ⟨b,j*5,none⟩=some (z j).a∧w2.cell? ⟨b,j*5+1,none⟩=some (z j).b∧w2.cell? ⟨b,j*5+2,none⟩=some (z j).c∧w2.cell? ⟨b,j*5+3,none⟩=some (z j).d∧w2.cell? ⟨b,j*5+4,none⟩=some (z j).e∧
   Rel w2 κ2 (aH ak κ2 (aB (KC name cs ds sz mp bs))) (.int .i64 (bs[j]).v.kind) (z j).b∧Rel w2 κ2 (aH ak κ2 (aB (KC name cs ds sz mp bs))) (.int .i64 (bs[j]).v.n) (z j).c∧Rel w2 κ2 (aH ak κ2 (aB (KC name cs ds sz mp bs))) (.str (bs[j]).v.name) (z j).d∧Rel w2 κ2 (aH ak κ2 (aB (KC name cs ds sz mp bs))) (.slice ((bs[j]).v.kids.map bf) .shared) (z j).e:=by
  rcases g3.2 with⟨rfl,rfl⟩|⟨b,c,e,h1,rfl,h2,h3⟩
  ·exact⟨0,fun _=>⟨[],0,0,[],none,0,0⟩,.inr Cl,.inl Cl,fun j hj=>absurd hj Cl⟩
  let⟨z,hz⟩:=ayU hs2 h1 rfl;exact⟨b,z,.inl (hs2.bound 2 b h1),.inr rfl,hz⟩
 have hd0:a.defers=[]:=hs2.defers;let⟨tm,dfs⟩:=a;subst hd0;refine wp_block (wpIn_wide.1 (aGU z name bs.length cap b ad (w:=w2) (bk:=bk) (b3:=b3) (b4:=b4) hlen e16 e3 e4 (hs2.bound 3 b3 k3) (hs2.bound 4 b4 k4) hc3 q4 l4 g2 (hs2.bound 5 bk k5) hb had hc5 (fun j hj=>?_) ?_ ?_))
 ·let⟨_,c1,c2,c3,c4,c5,_⟩:=hz j hj;exact⟨c1,c2,c3,c4,c5⟩
 ·intro hno D W hD hB hk;exact hdone (ayx fun j hj=>by rw[←(hz j hj).1];exact hno j hj) κ2 _ w2 D W hs2 hB hD hk
 intro j hj hnm hgt D W hD hB hk;let⟨z1,_,_,_,_,_,z2,z3,z4,z5⟩:=hz j hj;have hsC:=aBI name cs ds sz mp bs hs2 k4 (z j) (bs[j]).v z2 z3 z4 z5;have hsz:(QM w2 b4 (z j)).heap.size=w2.heap.size:=by simp[QM]
 exact hstop bs[j] (aAf hj (z1▸hnm) fun i h1 h2=>by rw[←(hz i h2).1];exact hgt i h1 h2) κ2 _ (QM w2 b4 (z j)) D W hsC (by rw[hsz];exact hB) (by rw[hsz];exact hD) hk
end
def azg(n:Str)(cs:A7)(ds:A4)(sz:A2)(p:List (Str×Val))(b:At):St 3 (xY cs ds sz p b) (lkS (V7 n) (KC n cs ds sz p b)):=
 ⟨(wW (m:=0) (h:=KC n cs ds sz p b) (t:=V7 n) (qAZ _)).inv,qAf rfl,λl a _=>by match l,a with|0,_=>exact .inl rfl|1,_=>exact .inl rfl|2,_=>exact .inl rfl⟩
def aH9(n:Str)(cs:A7)(ds:A4)(sz:A2)(p:List (Str×Val))(b:At)(v:Val):St 3 (xY cs ds sz p b) ⟨V7 n,lhC n cs ds sz p b v,[],[],[],[],[],[]⟩:=
 ⟨(wW (m:=0) (h:=lhC n cs ds sz p b v) (t:=V7 n) (qAZ _)).inv,qAf rfl,λl a _=>by match l,a with|0,_=>exact .inl rfl|1,_=>exact .inl rfl|2,_=>exact .inl rfl⟩
def Zp(n:Nat):ah Tryz.prog TE (fB n):=by
 refine⟨aFH,by kernel_rfl,λx y i t h A=>?_⟩;let⟨m,c,d,f,p,g⟩:=x;obtain⟨rfl,rfl⟩:t=[.ptr 0 0,.lf .s m]/\h=xY c d f p g:=⟨(congrArg Prod.fst A).symm,(congrArg Prod.snd A).symm⟩;clear A;have i:nY n c d f p g m=some y:=i;unfold nY at i;have O:∀Q∈[Gy n,Qa n],ah Tryz.prog TE Q:=λQ he=>by
  rcases qAh.1 he with rfl|he
  ·exact aoq n
  rw[qAK.1 he];exact awJ n
 have G:uf Tryz.prog TE=true:=by kernel_rfl
 have q:Tryz.prog.follows .mixedOrders=true:=by kernel_rfl
 have S:=lqI n m c d f p g
 match y,i with
 |PZ.ok T,i=>
  show ∀r j,dW bS (fB n).rs (fF _ ((fB n).out T)) (dM 1) (xY c d f p g)=(r,j)->eH Tryz.prog 152 (aU (xY c d f p g) [.ptr 0 0,.lf .s m]) (aB (xY c d f p g)) (av j (res1 r)) (aB j);intro r j l;have H:=λ(s:DS) (I:St 3 (xY c d f p g) s) (u:yK τ 3 Tryz.f152.results.toList (fB n).rs some s=some T)=>
   ad9 (h:=[]) (P:=Tryz.prog) (e:=fB n) (rvs:=Tryz.f152.results.toList) (out:=(fB n).out) (inn:=some) sm Cs (h0:=xY c d f p g) rfl rfl rfl I (by rw[<-yJ];exact u) l
  have o:(aB (xY c d f p g)).length<=j.length:=by
   have J:_=j:=congrArg Prod.snd l;rw[<-J];exact qAf rfl
  intro K ak w U k B L;refine avR (R:=asn K ak (aB (xY c d f p g)) r j w) m c d f p g k B L (λM C a N D W u hB E F=>?_) λb A C a N D W u hB E F=>?_
  ·rw[M]at i;exact aCN k o u hB E F (aEA (R:=Val) (eds:=[]) (ps:=(fB n).ps) yJ O G q Cs rfl rfl (azg m c d f p g) (S.trans i) H)
  rw[A]at i;cases i;exact aEv k o u hB E F (H ⟨V7 m,lhC m c d f p g b.v,[],[],[],[],[],[]⟩ (aH9 m c d f p g b.v) ((lqC n m c d f p g b.v).trans (congrArg some (by cases b.v;rfl))))
 |PZ.er v z,i=>
  show ∀r j,dW bS [] (fF _ z) (dM 0) (xY c d f p g)=(r,j)->Ej Tryz.prog 152 (aU (xY c d f p g) [.ptr 0 0,.lf .s m]) (aB (xY c d f p g)) (Cz TE v) (aB j);intro r j l;have o:(aB (xY c d f p g)).length<=(aB j).length:=by
   have J:_=j:=congrArg Prod.snd l;rw[<-J];exact qAf rfl
  intro K ak w U k B L;refine avR (R:=aCp K ak (aB (xY c d f p g)) (aB j) (Cz TE v) w) m c d f p g k B L (λM C a N D W u hB E F=>?_) λb A C a N D W u hB E F=>?_
  ·rw[M]at i;exact aBW k o u hB E F (aFb (R:=Val) (eds:=[]) (ps:=(fB n).ps) yJ O G q Cs rfl rfl (azg m c d f p g) (S.trans i) l)
  rw[A]at i;cases i
def has:A5->Nat->Bool|[],_=>false|x::s,l=>bif Nat.beq x l then true else has s l
def need(b:A5):List Oper->Nat|[]=>0|o::l=>(match nE o.op with|some (.func f,_)=>(bif has b f then 40 else 3)|some _=>3|none=>jX o.op)+need b l
end Abs
end Go.Proofs.YtneeginmfjageaaGreat

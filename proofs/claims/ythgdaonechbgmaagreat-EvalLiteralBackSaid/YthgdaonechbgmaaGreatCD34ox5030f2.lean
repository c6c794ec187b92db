/-
  A function that holds a slice against nil and gives a copy: the parts of its body by the executor. Conditions: the equations of the parts.
-/
import Derived.KernelRfl
import Derived.Shelf.SlGeneric
import Derived.Shelf.SlIter.Nil
import Derived.Shelf.SortM.Plain
import Derived.Shelf.SortM.SortNone
import Derived.Ground.GgzProg
import Derived.Ground.SlgmProg
import Derived.Test.YthgdaonechbgmaaGreatProg
import Derived.Tactics
import Derived.Tactics2
import Derived.WalkKit
import Derived.Laws.Externs
import Derived.Test.YthgdaonechbgmaaGreatCEnox0fe71f
set_option linter.all false
namespace Go.Proofs.YthgdaonechbgmaaGreat
namespace Abs
section
open Go
theorem AW.aLI{P:Program}{m:Nat}{x y:Code}{Q:QT}{t t':List AV}{h h':List AObj}(h1:AW P m x (nrm m t' h') t h)(h2:AW P m y Q t' h'):AW P m (.seq x y) Q t h:=
 AW.seq (h1.mono fun e t h ⟨e1,e2⟩=>by subst e1;exact AW.le e2 h2)
def aw0{R:Type}(f:DS→Option R)(y:R):QT:=fun e t h=>e=.ret∧∃s,St 0 [] s∧f s=some y∧Le 0 t h (aU s.h s.t) (aB s.h)
theorem V6{P:Program}{te:Nat}{θ:Nat→Option ET}{n:Nat}{c:Code}{p:Nat}{s:DS}{R:Type}{f:DS→Option R}{y:R}{τ:Nat→TI}(hτ:τ=TI.of P)(hte:uf P te=true)(hmix:P.follows .mixedOrders=true)(hst:St 0 [] s)
  (h:exe ⟨τ,θ,n,R,[],0,te,fun _ _=>none⟩ [] f c R p s some (fun _ _=>none)=some y):AW P 0 c (aw0 f y) (aU s.h s.t) (aB s.h):=by
 subst hτ;refine(WL (n:=n) (hs:=[]) (te:=te) (pn:=fun _ _=>none) (ret:=f) (m:=0) (h0:=[]) (fun e he=>by cases he) hte hmix c _ p s _ _ y hst h).mono fun e t hh ho=>?_;cases ho with
 |ret g1 g2 g3 g4=>cases g4;exact⟨rfl,_,g2,g3,g1⟩
 |qd g1 g2 g3 g4=>cases g3
 |go g1 g2 g3 g4=>cases g4
def cL:Code→Code| .seq a _=>a|c=>c
def cR:Code→Code| .seq _ b=>b|c=>c
noncomputable def bdy(fn:Func):Code:=match fn.body with|some c=>c|none=>.skip
noncomputable def lkS(t:List TV)(h:List TObj):DS:=⟨t,h,[],[],[],[],[],[]⟩
def clT(el:ET)(x:List el.D):List TV:=[.lf (.l el) x,.tup [],.nils,.tup [],.tup [],.tup [],.tup [],.tup []]
def clU(el:ET)(x:List el.D)(b:Bool):List TV:=[.lf (.l el) x,.tup [],.nils,.lf (.l el) x,.lf .b b,.tup [],.tup [],.tup []]
theorem YR{P:Program}{te:Nat}{θ:Nat→Option ET}{τ:Nat→TI}{n f:Nat}{el:ET}{rs:List Ed}{R:Type}{g:Option (jI (bM [.r 0 (.lf (.l el))])→Bool)}{F:List el.D→Option R}{out:R→jI (bM rs)}{fn:Func}{o1 o2:Oper}{R0 A B:Code}{id:Nat}{T T2 e0:TypeId}
  (inn:jI (bM rs)→Option R) (hτ:τ=TI.of P) (hte:uf P te=true) (hmix:P.follows .mixedOrders=true) (hf:P.funcs[f]? =some fn) (hok:mQ P f=true) (hwf:JC ⟨f,1,[.r 0 (.lf (.l el))],1,rs,R,none,g,F,out⟩=true)
  (hn:fn.ntmps=8) (hnr:1=fn.results.toList.length) (hinn:∀z y,inn z=some y→out y=z)
  (hb:fn.body=some (.seq R0 (.seq (.seq (.region id #[o1,o2] false) (.cond (.tmp 4) A .skip)) B)))
  (h1:o1.op=.move (.tmp 0)) (g1:o1.guard=none) (d1:o1.dst=some 3) (h2:o2.op=.binOp .eql T (.tmp 3) (.const (.slice none 0 0)) T2) (g2:o2.guard=none) (d2:o2.dst=some 4) (hT:P.underlying T=some (.slice e0))
  (q0:∀x:List el.D,exe ⟨τ,θ,n,Unit,[],0,te,fun _ _=>none⟩ [] (fun _=>none) R0 (List TV×List TObj) 1 (lkS (.lf (.l el) x::List.replicate 7 (.tup [])) []) (fun _=>none) (fun e s=>match e with| .normal=>some (s.t,s.h)|_=>none)=some (clT el x,[]))
  (qA:exe ⟨τ,θ,n,R,[],0,te,fun _ _=>none⟩ [] (yK τ 0 fn.results.toList rs inn) A R 3 (lkS (clU el [] true) []) some (fun _ _=>none)=F [])
  (qB:∀x y,F x=some y→AW P 0 B (aw0 (yK τ 0 fn.results.toList rs inn) y) (aU [] (clU el x false)) []):
  ah P te ⟨f,1,[.r 0 (.lf (.l el))],1,rs,R,none,g,F,out⟩:=by
 have hw0:=hwf;unfold JC at hwf;rw[qAa,qAa]at hwf;obtain⟨⟨_,hwf⟩,_⟩:=hwf;simp only[qAa]at hwf;obtain⟨_,edrs,_,_⟩:=hwf;refine⟨hok,hw0,fun x y hF t h hb1=>?_⟩;obtain⟨rfl,rfl⟩:t=[.lf (.l el) x]∧h=[]:=⟨(congrArg Prod.fst hb1).symm,(congrArg Prod.snd hb1).symm⟩;intro r h' hb2;have fin:∀{e t h},aw0 (yK τ 0 fn.results.toList rs inn) y e t h→e=.ret∧BQ P fn.results.toList 0 r h' t h:=fun{e t h} ⟨e1,s,s1,s2,s3⟩=>by
  subst hτ;obtain⟨t1,h1,xs,k1,k2,k3⟩:=ad9 (e:=⟨f,1,[.r 0 (.lf (.l el))],1,rs,R,none,g,F,out⟩) (h:=[]) hinn edrs rfl rfl hnr s1 s2 hb2;exact⟨e1,t1,h1,xs,s3.trans k1,k2,k3⟩
 refine apS hf hb (by rw[hn];exact qAf rfl) (qAZ _) ?_;rw[hn];have a0:=WM (h0:=[]) hτ (fun e he=>by cases he) hte hmix (wW (qAd 0)) (q0 x);refine AW.aLI a0 (AW.seq (AW.seq ?_));refine AW.aGc (x:=0) (y:=3) (d:=4) (es:=x.map el.enc) (tag:=.shared) h1 g1 d1 h2 g2 d2 hT rfl (qAf rfl) fun b hbe=>?_;refine AW.cond (b:=b) rfl (fun e1=>?_) fun e1=>?_
 ·have hx:x=[]:=List.map_eq_nil_iff.1 (hbe e1);subst hx e1;refine(V6 hτ hte hmix (wW (qAd 0)) (qA.trans hF)).mono fun e t h q=>?_;obtain⟨e2,k⟩:=fin q;subst e2;exact k
 ·subst e1;refine AW.skip ?_;refine(qB x y hF).mono fun e t h q=>?_;obtain⟨e2,k⟩:=fin q;subst e2;exact k
theorem aBN{P:Program}{τ:Nat→TI}{te n:Nat}{θ:Nat→Option ET}{el:ET}{b:Nat}{x:List el.D}{id:Nat}{o1 o2 o3 o4:Oper}{t t2 e:TypeId}{f:DS→Option (List el.D)}(hτ:τ=TI.of P)(hte:uf P te=true)(hmix:P.follows .mixedOrders=true)
  (h1:o1.op=.buildSlice t 0 #[]) (h2:o2.op=.move (.tmp 0)) (h3:o3.op=.call {callee:=.builtin .append,args:=#[.tmp 5,.tmp 6],argTypes:=#[t,t2]}) (h4:o4.op=.assign (.tmp 7)) (hd:o1.dst=some 5∧o2.dst=some 6∧o3.dst=some 7∧o4.dst=some 2) (hg:∀o∈[o1,o2,o3,o4],o.guard=none)
  (he:mX P t=some (e,el.sz,b)) (hb:1≤b) (ht:aP.isSliceT P t2=true) (hx:x.length*b≤140737488355328)
  (q:exe ⟨τ,θ,n,List el.D,[],0,te,fun _ _=>none⟩ [] f .ret (List el.D) 7 (lkS [.lf (.l el) x,.tup [],.psl 1 el.sz none,.lf (.l el) x,.lf .b false,.psl 0 el.sz (some 0),.lf (.l el) x,.psl 1 el.sz none] [.dead,.arr el x]) some (fun _ _=>none)=some x):
  AW P 0 (.seq (.region id #[o1,o2,o3,o4] false) .ret) (aw0 f x) (aU [] (clU el x false)) []:=by
 have w:∀o∈[o1,o2,o3,o4],∀t,eG #[o1,o2,o3,o4] t o=some true:=fun o ho t=>by simp[eG,hg o ho]
 simp only[qAh,forall_eq_or_imp,qCm,false_implies,forall_const,and_true]at w;obtain⟨w1,w2,w3,w4⟩:=w;obtain⟨d1,d2,d3,d4⟩:=hd;have ok:(x.map el.enc).all (dH el.sz)=true:=qAP.2 fun v hv=>by
  obtain⟨z,_,rfl⟩:=qAJ.1 hv;exact NS el z
 have s1:=ase (s:=⟨aU [] (clU el x false),[.res,.res]⟩) (k:=0) h1 he rfl;rw[d1]at s1;have s2:=Zh (P:=P) (o:=o2) (v:=.slice (x.map el.enc) .shared) (s:=(⟨aU [] (clU el x false),[.res,.res]⟩:ASt).wr (.obj 0 (.arr el.sz [])::aA (some 5) (.psl 0 el.sz 0))) (by rw[h2];rfl);rw[d2]at s2;have s3:=VJ (P:=P) (k:=1) (l:=0) (es:=[]) (es0:=[]) (ys:=x.map el.enc) (tag:=.shared) (s:=((⟨aU [] (clU el x false),[.res,.res]⟩:ASt).wr (.obj 0 (.arr el.sz [])::aA (some 5) (.psl 0 el.sz 0))).wr (aA (some 6) (.slice (x.map el.enc) .shared)))
  h3 rfl rfl he ht rfl rfl rfl rfl rfl (by simpa using hx) (by simpa using qAs (Nat.le_mul_of_pos_right _ hb) hx) rfl ok
 rw[d3]at s3;have s4:=Zh (P:=P) (o:=o4) (v:=.psl 1 el.sz (x.map el.enc).length) (s:=(((⟨aU [] (clU el x false),[.res,.res]⟩:ASt).wr (.obj 0 (.arr el.sz [])::aA (some 5) (.psl 0 el.sz 0))).wr (aA (some 6) (.slice (x.map el.enc) .shared))).wr (.obj 0 .dead:: .obj 1 (.arr el.sz ([]++x.map el.enc))::aA (some 7) (.psl 1 el.sz ([]++x.map el.enc).length))) (by rw[h4];rfl);rw[d4]at s4;refine AW.seq (AW.of (dK.region (l:=[o1,o2,o3,o4]) 2 (.cons (.inl ⟨w1 _,s1⟩) (.cons (.inl ⟨w2 _,s2⟩) (.cons (.inl ⟨w3 _,s3⟩) (.cons (.inl ⟨w4 _,s4⟩) (.nil _))))) ?_));have:=V6 (s:=lkS [.lf (.l el) x,.tup [],.psl 1 el.sz none,.lf (.l el) x,.lf .b false,.psl 0 el.sz (some 0),.lf (.l el) x,.psl 1 el.sz none] [.dead,.arr el x]) hτ hte hmix ⟨(wW (m:=0) (qAZ _)).inv,qAZ _,fun l hl=>absurd hl (Nat.not_lt_zero l)⟩ q;simp only[qAo,qAi];exact this
end
section
open Go Go.Proofs
theorem ayL:mQ Tryz.prog 61=true:=by kernel_rfl
theorem aGY(xs:Array Value)(w:World)(hx:xs.size=4):CallsD Tryz.prog 61 xs .returning w fun e u' w'=>e=.returned (.tuple #[])∧u'=.returning∧w'=w:=by
 obtain⟨l⟩:=xs
 match l,hx with
 |[x0,x1,x2,x3],_=>
 refine callsD_of_wpS Tryz.func61 rfl fun c₀ cs hu=>?_;apply wpS_seq;apply wpS_region;simp[wpOpsS,go_sem,recoverD,hu,Tryz.ntmps61,Exit.thenS];refine wpS_of_wp ?_;refine wp_block ?_;refine wp_seq ?_;apply wp_region;simp[wpOps,go_sem,Exit.then]
 first
  |refine wp_cond_true (by simp[Act.eval,go_sem]) ?_
  |refine .inl (wp_cond_true (by simp[Act.eval,go_sem]) ?_)
 apply wp_region;cases c₀
 simp_all [wpOps,go_sem,Exit.inBlock,bodyPostS,results,Tryz.results61]
def cD:Code→Code| .cond _ _ b=>b|c=>c
def cA:Code→Code| .cond _ a _=>a|c=>c
def cB:Code→Code| .block _ a=>a|c=>c
noncomputable def opsOf:Code→List Oper| .region _ o _=>o.toList|_=>[]
noncomputable def c72:Code:=cA (cR (cD (cR (cB (cR (bdy Tryz.f61))))))
section
variable (tm:Tm)(cs:List Carrier)(ds:List Decl)(sz:List Int)(mp:List (Str×Val))(bs z:List Bound)(c:Nat)(v:Int)
def hP:List TObj:=[.box [.lf (.l .car) cs,.lf (.l .dec) ds,.lf (.l .i) sz,.mapr 1,.psl 8 5 none],.mp .val mp,.gon bs.length,.box [.ptr 0 0],.box [.lf (.t .tm) tm],.box [.lf (.n .i64) 0,.lf (.n .i64) 0,.lf .s [],.nils],.box [.lf (.n .i64) 0],.box [.lf (.n .i64) (bs.length:Int)],.arr .bnd z]
def hC:List TObj:=[.box [.lf (.l .car) cs,.lf (.l .dec) ds,.lf (.l .i) sz,.mapr 1,.psl 8 5 none],.mp .val mp,.gon bs.length,.box [.ptr 0 0],.box [.lf (.t .tm) tm],.box [.lf (.n .i64) 0,.lf (.n .i64) 0,.lf .s [],.nils],.box [.lf (.n .i64) v],.box [.lf (.n .i64) (bs.length:Int)],.arr .bnd (z.take c)]
noncomputable def s72:DS:=⟨[.ptr 3 0,.ptr 7 0,.ptr 5 0,.ptr 6 0,.tup [],.tup [],.tup [],.unk,.tup [],.unk,.unk,.unk,.lf (.n .i64) v,.tup [],.tup [],.tup [],.tup [],.tup [],.tup [],.tup [],.tup [],.tup [],.tup [],.tup []],hP tm cs ds sz mp bs z,[],[],[],[],[],[]⟩
theorem q72:exe ⟨τ,θ,0,Unit,[(6,.ca 8 0 4)],9,TE,fun _ _=>none⟩ [] (fun _=>none) c72 (List TObj) 1 (s72 tm cs ds sz mp bs z v) (fun _=>none) (fun e s=>match e with| .normal=>some s.h|_=>none)=
  (FJ z.length (bs.length:Int)).bind fun c=>bif Nat.ble c z.length then some (hC tm cs ds sz mp bs z c v)else none:=by kernel_rfl
theorem aLn(hc:FJ z.length (bs.length:Int)=some c)(hb:Nat.ble c z.length=true):
  AW Tryz.prog 9 c72 (fun e t h=>e=.normal∧∃s:DS,s.h=hC tm cs ds sz mp bs z c v∧Le 9 t h (aU s.h s.t) (aB s.h)) (aU (hP tm cs ds sz mp bs z) (s72 tm cs ds sz mp bs z v).t) (aB (hP tm cs ds sz mp bs z)):=
 aDB (n:=0) (h0:=hP tm cs ds sz mp bs z) (f:=fun(s:DS)=>s.h) yJ (fun e he=>by cases he) (by kernel_rfl) (by kernel_rfl) (s:=s72 tm cs ds sz mp bs z v) (wW (qAd _)) ((q72 tm cs ds sz mp bs z v).trans (by rw[hc];simp only[qAb];rw[hb];rfl))
theorem aHa(v:Int)(w:World):(Instr.typeAssert (.iface TE (.int .i64 v)) 20 41 true).run Tryz.prog w=.ok (.tuple #[.int .i64 v,.bool true]) w:=by
 have h:Tryz.prog.underlying 41=some (.int .i64):=by kernel_rfl
 simp[Instr.typeAssert,run_underlying h,go_sem,Result.andThen,TE]
set_option maxHeartbeats 2000000 in
theorem aIT(hv:0≤v∧v≤1000)(hc:FJ z.length (bs.length:Int)=some c)(hb:Nat.ble c z.length=true):
  an1 Tryz.prog 61 [.ptr 3 0,.ptr 7 0,.ptr 5 0,.ptr 6 0] (aB (hP tm cs ds sz mp bs z)) (Cz TE v) (aB (hC tm cs ds sz mp bs z c v)):=by
 obtain⟨HP,hHP⟩:∃H,H=aB (hP tm cs ds sz mp bs z):=⟨_,rfl⟩;obtain⟨HC,hHC⟩:∃H,H=aB (hC tm cs ds sz mp bs z c v):=⟨_,rfl⟩;rw[←hHP,←hHC];intro κ ak w vs hen hvl hr;have hsim:=UN (fn:=Tryz.f61) hen hvl hr
 match vs,hvl with
 |[x0,x1,x2,x3],_=>
 refine callsD_of_wpS Tryz.func61 rfl fun c₀ fr hu=>?_;apply wpS_seq;apply wpS_region;simp[wpOpsS,go_sem,recoverD,hu,Tryz.ntmps61,Exit.thenS];refine wpS_of_wp ?_;refine wp_block ?_;refine wp_seq ?_;apply wp_region;simp[wpOps,go_sem,Exit.then,Cz]
 first
  |refine wp_cond_false (by simp[Act.eval,go_sem]) ?_
  |refine .inl (wp_cond_false (by simp[Act.eval,go_sem]) ?_)
 refine wp_seq ?_;apply wp_region;simp[wpOps,go_sem,Exit.then,aHa];have h1:=(((((hsim.aA (some 7) (v:=.unk) (u:=Cz TE v) (.unk _)).aA (some 9) (v:=.unk) (u:=.bool false) (.unk _)).aA (some 10) (v:=.unk) (u:=.tuple #[.int .i64 v,.bool true]) (.unk _)).aA (some 11) (v:=.unk) (u:=.bool true) (.unk _)).aA (some 12) (v:=.int .i64 v) (u:=.int .i64 v) (.int (by simp[sj,IntKind.min,IntKind.max,IntKind.signed,IntKind.bits];omega)));rw[hHP]at h1;have h2:=aLn tm cs ds sz mp bs z c v hc hb _ _ _ _ (qBm (by rw[←hHP];exact hen.klen.trans (by rw[hHP];rfl))) h1;rw[←hHP]at h2
 first
  |refine wp_cond_true (by simp[Act.eval,go_sem]) ?_
  |refine .inl (wp_cond_true (by simp[Act.eval,go_sem]) ?_)
  |refine .inl (.inl (wp_cond_true (by simp[Act.eval,go_sem]) ?_))
  |refine .inl (.inl (.inl (wp_cond_true (by simp[Act.eval,go_sem]) ?_)))
 have hact:(((((({tmps:=#[x0,x1,x2,x3]++Array.replicate (Tryz.f61.ntmps - #[x0,x1,x2,x3].size) undef,defers:=[]}:Act).put (some 7) (Cz TE v)).put (some 9) (.bool false)).put (some 10) (.tuple #[.int .i64 v,.bool true])).put (some 11) (.bool true)).put (some 12) (.int .i64 v))=
   {tmps:=#[x0,x1,x2,x3]++(((((Array.replicate 20 undef).setIfInBounds 3 (Value.iface TE (Value.int IntKind.i64 v))).setIfInBounds 5 (Value.bool false)).setIfInBounds 6 (Value.tuple #[Value.int IntKind.i64 v,Value.bool true])).setIfInBounds 7 (Value.bool true)).setIfInBounds 8 (Value.int IntKind.i64 v),defers:=[]}:=by
  simp[Act.put,Tryz.ntmps61,Cz]
 rw[hact]at h2;refine wp_mono (c:=c72) h2 ?_;rintro e a' w' ⟨s',κ',⟨rfl,s1,hs1,hle⟩,hs'⟩;have hl9:HP.length=9:=by rw[hHP];rfl
 have hq:BQ Tryz.prog Tryz.f61.results.toList HP.length [] (hC tm cs ds sz mp bs z c v) s'.tmps s'.heap:=by
  rw[hl9];exact⟨_,_,[],hle,rfl,by rw[hs1];exact Le.refl _ _ _⟩
 obtain⟨v1,hv1,v2,κ2,e1,hleave,_⟩:=YM (fn:=Tryz.f61) hen (by rw[hl9];exact qAd 9) [] hq hs';rw[←hHC]at hleave;have hd:a'.defers=[]:=hs'.defers;exact⟨hd,.panicking [{v:=Value.iface TE (Value.int IntKind.i64 v),recovered:=true}],rfl,.tuple #[],by simp[results,Tryz.results61,go_sem],rfl,by simp[settle],κ2,hleave⟩
end
end
end Abs
end Go.Proofs.YthgdaonechbgmaaGreat
namespace Go.Proofs
open Go.Shelf
def Tryz.afH:Go.Shelf.Ren:=⟨fun|7=>169|10=>257|n=>n,fun|23=>109|26=>9|3=>4|28=>189|0=>0|27=>188|33=>120|4=>4|n=>n,fun|n=>n⟩
set_option maxRecDepth 100000 in
theorem Tryz.aED:Go.Proofs.SlLaysZ.n7 Tryz.prog Tryz.afH:={
 mixed:=by kernel_rfl
 f7:=⟨Tryz.f169.name,by decide,Tryz.func169.trans (congrArg some (by kernel_rfl))⟩
 f10:=⟨Tryz.f257.name,by decide,Tryz.func257.trans (congrArg some (by kernel_rfl))⟩
 t0:=Tryz.underlying0
 a0:=Tryz.isAgg0
 z0:=Tryz.sizeOf0
 v0:=Tryz.zeroValue0
 t4:=Tryz.underlying4
 a4:=Tryz.isAgg4
 z4:=Tryz.sizeOf4
 v4:=Tryz.zeroValue4
 t23:=Tryz.underlying109
 a23:=Tryz.isAgg109
 z23:=Tryz.sizeOf109
 v23:=Tryz.zeroValue109
 t26:=Tryz.underlying9
 a26:=Tryz.isAgg9
 z26:=Tryz.sizeOf9
 v26:=Tryz.zeroValue9
 t27:=Tryz.underlying188
 a27:=Tryz.isAgg188
 z27:=Tryz.sizeOf188
 v27:=Tryz.zeroValue188
 t28:=Tryz.underlying189
 a28:=Tryz.isAgg189
 z28:=Tryz.sizeOf189
 v28:=Tryz.zeroValue189
 t33:=Tryz.underlying120
 a33:=Tryz.isAgg120
 z33:=Tryz.sizeOf120
 v33:=Tryz.zeroValue120}
def Tryz.ZJ:Go.Shelf.Ren:=⟨fun|6=>168|8=>255|9=>256|11=>297|13=>146|12=>298|23=>244|24=>245|14=>311|15=>312|16=>313|17=>314|18=>315|19=>316|20=>317|21=>318|22=>319|25=>320|26=>290|27=>291|28=>321|29=>322|30=>323|31=>324|n=>n,fun|26=>9|28=>189|24=>62|0=>0|3=>3|37=>173|48=>229|50=>231|4=>4|40=>223|39=>222|45=>194|5=>5|9=>9|51=>244|55=>248|57=>259|58=>164|33=>120|n=>n,fun|n=>n⟩
set_option maxRecDepth 100000 in
theorem Tryz.ay5:Go.Proofs.SlLaysZ.n6 Tryz.prog Tryz.ZJ:={
 mixed:=by kernel_rfl
 f6:=⟨Tryz.f168.name,by decide,Tryz.func168.trans (congrArg some (by kernel_rfl))⟩
 f8:=⟨Tryz.f255.name,by decide,Tryz.func255.trans (congrArg some (by kernel_rfl))⟩
 f11:=⟨Tryz.f297.name,by decide,Tryz.func297.trans (congrArg some (by kernel_rfl))⟩
 t0:=Tryz.underlying0
 a0:=Tryz.isAgg0
 z0:=Tryz.sizeOf0
 v0:=Tryz.zeroValue0
 t24:=Tryz.underlying62
 a24:=Tryz.isAgg62
 z24:=Tryz.sizeOf62
 v24:=Tryz.zeroValue62
 t26:=Tryz.underlying9
 a26:=Tryz.isAgg9
 z26:=Tryz.sizeOf9
 v26:=Tryz.zeroValue9
 t28:=Tryz.underlying189
 a28:=Tryz.isAgg189
 z28:=Tryz.sizeOf189
 v28:=Tryz.zeroValue189
 i26:=by kernel_rfl}
def Tryz.atw:Go.Shelf.Ren:=⟨fun|6=>256|8=>146|9=>298|19=>244|20=>245|21=>311|22=>312|23=>313|24=>314|25=>315|26=>316|27=>317|28=>318|29=>319|36=>320|31=>290|32=>291|37=>321|38=>322|39=>323|41=>324|n=>n,fun|27=>62|29=>9|3=>3|32=>173|26=>62|0=>0|44=>229|46=>231|4=>4|36=>223|35=>222|41=>194|5=>5|9=>9|53=>244|57=>248|63=>259|64=>164|n=>n,fun|n=>n⟩
set_option maxRecDepth 100000 in
theorem Tryz.avU:Go.Proofs.SlLaysM.n6 Tryz.prog Tryz.atw:={
 mixed:=by kernel_rfl
 f6:=⟨Tryz.f256.name,by decide,Tryz.func256.trans (congrArg some (by kernel_rfl))⟩
 f8:=Tryz.func146.trans (congrArg some (by kernel_rfl))
 f9:=⟨Tryz.f298.name,by decide,Tryz.func298.trans (congrArg some (by kernel_rfl))⟩
 f19:=Tryz.func244.trans (congrArg some (by kernel_rfl))
 f20:=Tryz.func245.trans (congrArg some (by kernel_rfl))
 f21:=⟨Tryz.f311.name,by decide,Tryz.func311.trans (congrArg some (by kernel_rfl))⟩
 f22:=⟨Tryz.f312.name,by decide,Tryz.func312.trans (congrArg some (by kernel_rfl))⟩
 f23:=⟨Tryz.f313.name,by decide,Tryz.func313.trans (congrArg some (by kernel_rfl))⟩
 f24:=⟨Tryz.f314.name,by decide,Tryz.func314.trans (congrArg some (by kernel_rfl))⟩
 f25:=⟨Tryz.f315.name,by decide,Tryz.func315.trans (congrArg some (by kernel_rfl))⟩
 f26:=⟨Tryz.f316.name,by decide,Tryz.func316.trans (congrArg some (by kernel_rfl))⟩
 f27:=⟨Tryz.f317.name,by decide,Tryz.func317.trans (congrArg some (by kernel_rfl))⟩
 f28:=⟨Tryz.f318.name,by decide,Tryz.func318.trans (congrArg some (by kernel_rfl))⟩
 f29:=⟨Tryz.f319.name,by decide,Tryz.func319.trans (congrArg some (by kernel_rfl))⟩
 f31:=Tryz.func290.trans (congrArg some (by kernel_rfl))
 f32:=Tryz.func291.trans (congrArg some (by kernel_rfl))
 f36:=⟨Tryz.f320.name,by decide,Tryz.func320.trans (congrArg some (by kernel_rfl))⟩
 f37:=⟨Tryz.f321.name,by decide,Tryz.func321.trans (congrArg some (by kernel_rfl))⟩
 f38:=⟨Tryz.f322.name,by decide,Tryz.func322.trans (congrArg some (by kernel_rfl))⟩
 f39:=⟨Tryz.f323.name,by decide,Tryz.func323.trans (congrArg some (by kernel_rfl))⟩
 f41:=⟨Tryz.f324.name,by decide,Tryz.func324.trans (congrArg some (by kernel_rfl))⟩
 t0:=Tryz.underlying0
 a0:=Tryz.isAgg0
 z0:=Tryz.sizeOf0
 v0:=Tryz.zeroValue0
 t3:=Tryz.underlying3
 a3:=Tryz.isAgg3
 z3:=Tryz.sizeOf3
 v3:=Tryz.zeroValue3
 t4:=Tryz.underlying4
 a4:=Tryz.isAgg4
 z4:=Tryz.sizeOf4
 v4:=Tryz.zeroValue4
 t5:=Tryz.underlying5
 a5:=Tryz.isAgg5
 z5:=Tryz.sizeOf5
 v5:=Tryz.zeroValue5
 t9:=Tryz.underlying9
 a9:=Tryz.isAgg9
 z9:=Tryz.sizeOf9
 v9:=Tryz.zeroValue9
 t26:=Tryz.underlying62
 a26:=Tryz.isAgg62
 z26:=Tryz.sizeOf62
 v26:=Tryz.zeroValue62
 t27:=Tryz.underlying62
 a27:=Tryz.isAgg62
 z27:=Tryz.sizeOf62
 v27:=Tryz.zeroValue62
 t29:=Tryz.underlying9
 a29:=Tryz.isAgg9
 z29:=Tryz.sizeOf9
 v29:=Tryz.zeroValue9
 t32:=Tryz.underlying173
 a32:=Tryz.isAgg173
 z32:=Tryz.sizeOf173
 v32:=Tryz.zeroValue173
 t35:=Tryz.underlying222
 a35:=Tryz.isAgg222
 z35:=Tryz.sizeOf222
 v35:=Tryz.zeroValue222
 t36:=Tryz.underlying223
 a36:=Tryz.isAgg223
 z36:=Tryz.sizeOf223
 v36:=Tryz.zeroValue223
 t41:=Tryz.underlying194
 a41:=Tryz.isAgg194
 z41:=Tryz.sizeOf194
 v41:=Tryz.zeroValue194
 t44:=Tryz.underlying229
 a44:=Tryz.isAgg229
 z44:=Tryz.sizeOf229
 v44:=Tryz.zeroValue229
 t46:=Tryz.underlying231
 a46:=Tryz.isAgg231
 z46:=Tryz.sizeOf231
 v46:=Tryz.zeroValue231
 t53:=Tryz.underlying244
 a53:=Tryz.isAgg244
 z53:=Tryz.sizeOf244
 v53:=Tryz.zeroValue244
 t57:=Tryz.underlying248
 a57:=Tryz.isAgg248
 z57:=Tryz.sizeOf248
 v57:=Tryz.zeroValue248
 t63:=Tryz.underlying259
 a63:=Tryz.isAgg259
 z63:=Tryz.sizeOf259
 v63:=Tryz.zeroValue259
 t64:=Tryz.underlying164
 a64:=Tryz.isAgg164
 z64:=Tryz.sizeOf164
 v64:=Tryz.zeroValue164}
end Go.Proofs
namespace Go.Proofs.YthgdaonechbgmaaGreat
namespace Abs
section
open Go
def has:List Nat→Nat→Bool
 |[],_=>false
 |x::xs,l=>bif Nat.beq x l then true else has xs l
def need(big:List Nat):List Oper→Nat
 |[]=>0
 |o::l=>(match nE o.op with
  |some (.func f,_)=>(bif has big f then 40 else 3)
  |some _=>3
  |none=>jX o.op)+need big l
end
section
open Go Go.Proofs Go.RowKit Go.Maps Go.Sort Go.Shelf
theorem aCV(m:Nat):AnyZ.SortsIn Tryz.prog Tryz.ZJ Fence.wide m:=
 ⟨fun blk off cap ss W hH hblk hsz=>callsIn_wide.2 (AnyM.slices_Sort_string Tryz.avU blk off cap ss W hH hblk hsz),
  fun p cap W=>callsIn_wide.2 (AnyM.slices_Sort_string_none Tryz.avU p cap W)⟩
set_option maxHeartbeats 1000000 in
theorem axv(b bm nn:Nat)(D0:DataW Unit)(R:Value→Option (DataW Unit×List MemPlace))(w:World)(hbm:bm<w.heap.size)(hc:w.cell? ⟨bm,0,none⟩=some (.map (some b)))(hown:w.ownsMap Tryz.prog 9 R b nn D0)(hmax:Maps.size D0≤maxLen)(hbytes:Maps.size D0*16≤140737488355328):
  CallsIn Fence.wide 5 Tryz.prog 168 #[.func (.func 257) #[] #[.pointer (some ⟨bm,0,none⟩)]] w fun e w'=>∃(v:Value) (ss:List (List UInt8)),e=.returned v∧ss.Perm (strKeys D0)∧
   w'.ownsRow w.heap.size 9 1 v ss.length ((ss.mergeSort (fun x y=>decide (x≤y))).map encStr)∧(v=.slice none 0 0↔ss=[])∧Below w.heap.size w w':=by
 have hseq:SeqGives Fence.wide 2 Tryz.prog 257 #[.pointer (some ⟨bm,0,none⟩)] encStr (fun ss=>ss.Perm (strKeys D0)) (Maps.size D0) w:=
  AnyZ.keys_gives (ρ:=Tryz.afH) {Tryz.aED with} Fence.wide _ trivial rfl (by omega) bm b nn D0 _ hbm hc hown
 exact AnyZ.sorted_in Tryz.ay5 Fence.wide 5 trivial trivial trivial trivial rfl (by omega) (aCV _) (enters_of Tryz.func256 (by kernel_rfl) rfl) 257 #[.pointer (some ⟨bm,0,none⟩)] trivial (enters_of Tryz.func257 (by kernel_rfl) rfl) _ _ hmax hbytes _ hseq
theorem Leave.same{κ:aS}{ak:bU}{H:List AObj}{w w':World}(he:Entry κ ak H w)(hb:Go.RowKit.Below w.heap.size w w'):Leave κ κ ak H H w w':=by
 have hcell:∀b off u,w.cell? ⟨b,off,none⟩=some u→w'.cell? ⟨b,off,none⟩=some u:=fun b off u hc=>by
  have hlt:=lt_of_cell hc;simp only[World.cell?,hb.block b hlt]at hc⊢;exact hc
 have hevo:Evo (aH ak κ H) w w':=⟨hb.size,fun b off u _ hc=>hcell b off u hc,fun b c e z hx=>⟨c,by rw[hb.block b (qBi.1 hx).1];exact hx,rfl⟩⟩;exact⟨he.klen,qAd _,dL.refl _,he.resv,fun l b h1 h2=>(he.obj l b h1 h2).mono (hb.block b (he.bound l b h1)) hevo (dL.refl _) (fun _ _ h _=>h),
  fun l b h1 h2=>.inr ⟨l,h1,h2⟩,he.apart,fun l b h1=>qAB (he.bound l b h1) hb.size,fun b hlt _=>hb.block b hlt,hevo,fun _ _ h _=>h,hb.os,hb.tape,hb.output⟩
theorem avp{κ:aS}{ak:bU}{H:List AObj}{w:World}(he:Entry κ ak H w){b o:Nat}(h:aH ak κ H b o):b<w.heap.size:=by
 rcases h with h|⟨l,h1,_⟩
 ·exact he.pvlt b o h
 ·exact he.bound l b h1
theorem apT(H:List AObj)(p m:Nat)(es:List (List UInt8×AV))(hp:obj? H p=.box [.mapr m])(hm:obj? H m=.mp es)(hb16:es.length*16≤140737488355328):
  eH Tryz.prog 168 [.func 257 [.ptr p 0]] H (.slice (((es.map (·.1)).mergeSort leS).map encS) .shared) H:=by
 intro κ ak w vs hen hlen hr;have h0:=hr 0 (by simp)
 match vs,hlen with
 |[v],_=>
 simp only[List.getD,qAG,qAw]at h0;obtain⟨cs,rfl,hcl,hcr⟩:=h0.LD
 match cs,hcl with
 |[cp],_=>
 have h1:=hcr 0 (by simp);simp only[List.getD,qAG,qAw]at h1;obtain⟨bm,rfl,hbm⟩:=h1.sD;have ho:=hen.obj p bm hbm (by rw[hp];trivial);rw[hp]at ho;obtain⟨c,el,g1,g2,g3⟩:=ho;have h2:=g3 0 (by simp);simp only[List.getD,qAG,qAw]at h2;have hcell:w.cell? ⟨bm,0,none⟩=some (c.getD 0 undef):=by
  have:0<c.size:=by rw[g2];simp
  simp[World.cell?,g1,Array.getD,this]
 generalize c.getD 0 undef=cv at h2 hcell;cases h2 with
 |@mapr _ b hb=>
 have hmo:=hen.obj m b hb (by rw[hm];trivial);rw[hm]at hmo;obtain⟨ms,clock,k1,k2,k3,k4⟩:=hmo;have k31:es.length≤140737488355328:=by have:=k3.1;rwa[qAi]at this
 have hk9:Tryz.prog.underlying 9=some .string:=by kernel_rfl
 let R:Value→Option (DataW Unit×List MemPlace):=fun _=>some (.lit (.bool true),[])
 have hkeys:∀j,(hj:j<ms.size)→keyOf Tryz.prog 9 ms[j].key=some (.string (es.getD j ([],.unk)).1):=fun j hj=>by
  have h5:=(k4 j (by omega)).1;have e:ms.getD j default=ms[j]:=by simp[Array.getD,hj]
  rw[e]at h5;rw[h5,Go.WideMaps.keyOf_string_mk hk9];have hmem:(es.getD j ([],.unk)).1∈es.map (·.1):=by
   have hj':j<es.length:=by omega
   rw[List.getD,qAc hj',qAw];exact qAJ.2 ⟨_,qAO _,rfl⟩
  have:=k3.2.2 _ hmem;simpa[ByteArray.size,maxLen]using this
 have hrd:∀j,(hj:j<ms.size)→WideElems.rd Tryz.prog 9 R ms[j]=some (.string (es.getD j ([],.unk)).1,.lit (.bool true)):=fun j hj=>by
  simp only[WideElems.rd,hkeys j hj,qAb,R,qAx]
 have hown:w.ownsMap Tryz.prog 9 R b es.length (.map ((ms.toList.map (WideElems.rg Tryz.prog 9 R)).foldr DataW.insert [])):=by
  refine⟨ms,clock,k1,⟨?_,k3.2.1,fun x hx=>?_⟩,by omega,rfl⟩
  ·simp only[maxLen];omega
  ·obtain⟨j,hj,rfl⟩:=qBy hx;simp only[qBZ]at hj;exact⟨_,by simpa using hrd j hj⟩
 have hperm:(strKeys (.map ((ms.toList.map (WideElems.rg Tryz.prog 9 R)).foldr DataW.insert []))).Perm (es.map (·.1)):=by
  simp only[strKeys];refine((WideShapes.sorted_perm _).map _).trans ?_;have e:(ms.toList.map (WideElems.rg Tryz.prog 9 R)).map (fun p=>strOf p.1)=es.map (·.1):=by
   apply qBO
   ·simp[k2]
   ·intro j h1 h2;simp only[qAi,qBZ]at h1 h2;simp only[qDo,qDF];rw[WideElems.rg_of (hrd j h1)];simp[strOf,List.getD,qAc h2]
  rw[e]
 have hsz:Maps.size (H:=Unit) (.map ((ms.toList.map (WideElems.rg Tryz.prog 9 R)).foldr DataW.insert []))=es.length:=by
  rw[size_eq,DataW.length_sorted];simp[k2]
 have hcall:=callsIn_wide.1 (axv b bm es.length _ R w (hen.bound p bm hbm) hcell hown (by rw[hsz];simp only[maxLen];omega) (by rw[hsz];exact hb16));refine hcall.mono ?_;rintro e w' ⟨v,ss,rfl,hss,hrow,_,hbel⟩;refine⟨v,κ,rfl,Leave.same hen hbel,?_⟩;have hsort:ss.mergeSort (fun x y=>decide (x≤y))=(es.map (·.1)).mergeSort leS:=mergeSort_of_perm (hss.trans hperm);rw[hsort]at hrow;generalize hL:(es.map (·.1)).mergeSort leS=L at hrow;have hLl:L.length=es.length:=by rw[←hL];simp
 have hssl:ss.length=es.length:=by have:=(hss.trans hperm).length_eq;simpa using this
 have hLk:∀x∈L,x.length≤9223372036854775807:=fun x hx=>k3.2.2 x (by rw[←hL]at hx;exact(List.mergeSort_perm _ _).mem_iff.1 hx);obtain⟨hrl,hrow⟩:=hrow;rcases hrow with⟨rfl,hz⟩|⟨g,cap,cur,rfl,hbase,hg,hcap,_,hcur,htake⟩
 ·have:L=[]:=qAD.1 (by omega);subst this;have:=Rel.slice (w:=w') (κ:=κ) (pv:=aH ak κ H) (es:=[]) (tag:=.shared) (a:=none) (cap:=0) 0 0 1 (fun _ _=>undef) (fun i h=>by cases h) (fun h=>(h rfl).elim) (qAd _) (by simp) (fun i j h=>by cases h) (fun i j h=>by cases h) (fun i j h=>by cases h) trivial;simpa using this
 ·have hgi:∀i,i<L.length→w'.cell? ⟨g,0+(i*1+0),none⟩=some (encStr (L.getD i [])):=fun i hi=>by
   have hcs:i<cur.size:=by omega
   have e1:cur[i]=encStr (L.getD i []):=by
    have:(cur.toList.take (ss.length*1))[i]? =some (encStr (L.getD i [])):=by
     rw[htake,qAE,qAc hi];simp[List.getD,qAc hi]
    rw[qBq,if_pos (by omega)]at this;simpa[hcs]using this
   have e0:0+(i*1+0)=i:=by omega
   rw[e0];simp[World.cell?,hg,hcs,e1]
  have hlen2:(L.map encS).length=es.length:=by simp[hLl]
  have:=Rel.slice (w:=w') (κ:=κ) (pv:=aH ak κ H) (es:=L.map encS) (tag:=.shared) (a:=some ⟨g,0,none⟩) (cap:=cap) g 0 1 (fun i _=>encStr (L.getD i []))
   (fun i hi=>by simp only[qAi]at hi;simp[List.getD,qAc hi,encS]) (fun _=>rfl) (by omega) (by omega)
   (fun i j _ _ hpv=>by have:=avp hen hpv;omega)
   (fun i j hi hj=>by
    simp only[qAi]at hi;have hj0:j=0:=by omega
    subst hj0;exact hgi i hi)
   (fun i j hi hj=>by
    simp only[qAi]at hi;have hj0:j=0:=by omega
    subst hj0;have e:((L.map encS).getD i []).getD 0 .unk=.str (L.getD i []):=by simp[List.getD,qAc hi,encS]
    rw[e];refine .str (hLk _ ?_);rw[List.getD,qAc hi];exact qAO _) trivial
  rw[hlen2]at this;rw[hssl];exact this
end
section
open Go Go.Proofs
theorem aFq:mQ Tryz.prog 168=true:=by kernel_rfl
theorem SC(n:Nat)(p0:List (Str×Bool))(r:List Str)(h:ow n p0=some r):
  eH Tryz.prog 168 [.func 257 [.ptr 0 0]] [.box [.mapr 1],.mp (List.map (fun p=>(p.1,(fun(x:Bool)=>.bool x) p.2)) p0)] (.slice (List.map encS r) .shared) [.box [.mapr 1],.mp (List.map (fun p=>(p.1,(fun(x:Bool)=>.bool x) p.2)) p0)]:=by
 unfold ow at h;split at h
 ·rename_i hl;have e:=Option.some.inj h;subst e;have:=apT [.box [.mapr 1],.mp (List.map (fun p=>(p.1,(fun(x:Bool)=>.bool x) p.2)) p0)] 0 1 _ rfl rfl (by simpa using hl);simpa[qBh,qCv]using this
 ·cases h
theorem aGp:mQ Tryz.prog 149=true:=by kernel_rfl
set_option maxHeartbeats 1000000 in
set_option maxRecDepth 100000 in
theorem aok(a b:ByteArray)(w:World):Calls Tryz.prog 247 #[.string a,.string b] w fun e w'=>e=.returned (.int .i64 (Lib.compareBytes a.data.toList b.data.toList))∧w'=w:=by
 go_enter Tryz.func247,Tryz.ntmps247
 go_wp2
 rw[run_callFunc_extern Tryz.func294 (by kernel_rfl) (by kernel_rfl) (by kernel_rfl) (e:=Extern.BytealgCompare.compare) (by kernel_rfl),Lib.run_compareString];simp only[Result.andThen];rw[Oper.upon_value]
 go_wp2
 go_ret
 exact⟨rfl,rfl⟩
set_option maxHeartbeats 1000000 in
set_option maxRecDepth 100000 in
theorem aoy(a b:ByteArray)(w:World):Calls Tryz.prog 149 #[.string a,.string b] w fun e w'=>e=.returned (.int .i64 (Lib.compareBytes a.data.toList b.data.toList))∧w'=w:=by
 go_enter Tryz.func149,Tryz.ntmps149
 go_wp2_with (go_at_call 247;refine(aok _ _ _).mono ?_;rintro e w' ⟨rfl,rfl⟩)
 go_ret
 exact⟨rfl,rfl⟩
theorem ano:∀a b:Str,Lib.compareBytes a b= -1∨Lib.compareBytes a b=0∨Lib.compareBytes a b=1
 |[],[]=>by simp[Lib.compareBytes]
 |[],_::_=>by simp[Lib.compareBytes]
 |_::_,[]=>by simp[Lib.compareBytes]
 |a::x,b::y=>by
  have:=ano x y;simp only[Lib.compareBytes]
  grind
theorem ab5(n:Nat)(p0:Str)(p1:Str)(r:Int)(h:strings_Compare n p0 p1=some r):eH Tryz.prog 149 [.str p0,.str p1] [] (.int .i64 r) []:=by
 have e:=Option.some.inj h;subst e;intro κ ak w vs hen hlen hr
 match vs,hlen with
 |[v,u],_=>
 have h0:=hr 0 (by simp);have h1:=hr 1 (by simp);simp only[List.getD,qAG,qBp,qAw]at h0 h1;obtain⟨e0,_⟩:=h0.BK;obtain⟨e1,_⟩:=h1.BK;subst e0 e1;refine(aoy _ _ w).mono ?_;rintro e w' ⟨rfl,rfl⟩;refine⟨_,κ,rfl,Leave.same hen (qCO _ _),?_⟩;refine .int ?_;rcases ano p0 p1 with h|h|h<;>simp[h,sj,IntKind.min,IntKind.max,IntKind.signed,IntKind.bits]
end
end Abs
end Go.Proofs.YthgdaonechbgmaaGreat

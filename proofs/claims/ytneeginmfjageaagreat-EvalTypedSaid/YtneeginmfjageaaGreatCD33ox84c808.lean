/-
  A function whose body holds a range over a function: the parts behind the loop, by the executor. Conditions: none; lemmas over any program.
-/
import Derived.RangeFuncBox
import Derived.RangeFuncNested
import Derived.RangeFuncLeaves
import Derived.Shelf.Abstract
import Derived.WalkKit
import Derived.OwnWalkIn
import Derived.TacticsInMore
import Derived.LoopNIn
import Derived.LoopIn
import Derived.KernelRfl
import Derived.Test.YtneeginmfjageaaGreatProg
import Derived.Test.YtneeginmfjageaaGreatCEnox979cf4
import Derived.Test.YtneeginmfjageaaGreatCRngox0ef7c2
set_option linter.all false
namespace Go.Proofs.YtneeginmfjageaaGreat
namespace Abs
section
open Go
def Ctx.rk(C:Ctx)κ(s:ASt)w(D):={C with old:=λb=>C.old b∨b=D,w0:=w,pvE:=aD C.ak κ s.heap}
theorem Sim.rk{C:Ctx}{κ:aM}{s:ASt}{a:Act}{w:World}(h:Sim C κ s a w){D:Nat}(hD:D<w.heap.size)(hf:∀l,at? κ l≠some D):Sim (C.rk κ s w D) κ s a w where
 defers:=h.defers
 len:=h.len
 slot:=h.slot
 klen:=h.klen
 kext:=h.kext
 resv:=h.resv
 obj:=h.obj
 apart:=h.apart
 own:=fun l b h1 h2 ho=>by
  rcases ho with ho|ho
  ·exact h.own l b h1 h2 ho
  ·exact hf l (by rw[h1,ho])
 bound:=h.bound
 pvold:=fun b o hp=>.inl (h.pvold b o hp)
 oldlt:=fun b hb=>by
  rcases hb with hb|hb
  ·exact qAD (h.oldlt b hb) h.size
  ·rw[hb];exact hD
 old:=fun _ _=>rfl
 os:=rfl
 tape:=rfl
 output:=rfl
 size:=qAd _
 pvsub:=fun _ _ hp _=>hp
 kS:=Evo.refl _ _
theorem Sim.aEM{C κ s}{a:Act}{w:World}(h:Sim C κ s a w){D:Nat}{κ':aM}{s':ASt}{f:Act}{w':World}(c:Sim (C.rk κ s w D) κ' s' f w'):Sim C κ' s' f w'/\w'.heap[D]? =w.heap[D]?/\∀l,at? κ' l=some D->¬live (obj? s'.heap l):=
 ⟨{
   defers:=c.defers
   len:=c.len
   slot:=c.slot
   klen:=c.klen
   kext:=c.kext
   resv:=c.resv
   obj:=c.obj
   apart:=c.apart
   own:=λl b d e i=>c.own l b d e (.inl i)
   bound:=c.bound
   pvold:=h.pvold
   oldlt:=h.oldlt
   old:=λb g=>(c.old b (.inl g)).trans (h.old b g)
   os:=c.os.trans h.os
   tape:=c.tape.trans h.tape
   output:=c.output.trans h.output
   size:=qAu h.size c.size
   pvsub:=λb o p t=>h.pvsub b o (c.pvsub b o p (qAD t h.size)) t
   kS:=h.kS.trans c.kS λx o p t=>h.pvsub x o p t},
  c.old D (.inr rfl),λl d e=>c.own l D d e (.inr rfl)⟩
def arl κ ak H T hJ w e w':=∃v a,e=Ending.returned v/\Leave κ a ak H (aA hJ) w w'/\Rel w' a (aD ak a (aA hJ)) (av hJ (res1 T)) v
def aBm κ ak H H' v w e w':=∃a,e=Ending.panicked [{v,recovered:=false}]/\Leave κ a ak H H' w w'
section
variable {P:Program}{fn:Func}{κ:aM}{ak:bJ}{w:World}{H H':List AObj}{T:List TV}{hJ:List TObj}{D:Nat}{v:Value}
def Ls(D:Nat):List Deferred:=[{target:=.collected D,args:=#[]}]
theorem aov(e:Entry κ ak H w)(j:H.length<=hJ.length){s κ' a w'}(hs:Sim (bodyC κ ak H w (Ls D)) κ' s a w')(q:Ca P fn.results.toList H.length T hJ s.tmps s.heap)(d:w'.heap[D]? =some (.deferred (some [])))(n:w.heap.size<=D)(f:∀l,at? κ' l=some D->¬live (obj? s.heap l)):
  LeavesInM Fence.wide 3 P fn a.tmps (arl κ ak H T hJ w) a.defers .returning w':=by have b:=hs.ajl d (λh=>qDk _ (qAD h.1 n)) f;rw[hs.defers];obtain⟨u,v,c⟩:=Wd e j _ q b;exact⟨by simp,.inl ⟨_,_,rfl,run_takeDeferred d,u,v,c⟩⟩
theorem azO(f:Entry κ ak H w)(j:H.length<=H'.length){s}{κ'}{a}{w'}(hs:Sim (bodyC κ ak H w (Ls D)) κ' s a w')(A:∃y d,Le H.length s.tmps s.heap y d/\Le H.length [] d [] H')(z:w'.heap[D]? =some (.deferred (some [])))(g:w.heap.size<=D)(B:∀l,at? κ' l=some D->¬live (obj? s.heap l)):
  LeavesInM Fence.wide 3 P fn a.tmps (aBm κ ak H H' v w) a.defers (.panicking [{v,recovered:=false}]) w':=by
 have i:=hs.ajl z (λh=>qDk _ (qAD h.1 g)) B;have k:(bodyC κ ak H w (Ls D)).k0.length<=H.length:=qBk f.klen;obtain⟨y,d,C,E⟩:=A;obtain⟨e,m⟩:=C _ κ' a _ k i;have x:Sim (bodyC κ ak H w (Ls D)) e ⟨[],d⟩ {tmps:=#[],defers:=a.defers} _:={m with
  len:=rfl
  slot:=λn g=>by cases g}
 obtain⟨o,c⟩:=E _ e _ _ k x;rw[hs.defers];refine⟨by simp,.inl ⟨_,_,rfl,run_takeDeferred z,o,rfl,c.klen,j,c.kext,c.resv,c.obj,?_,c.apart,c.bound,λb F p=>c.old b ⟨F,p⟩,c.kS,c.pvsub,c.os,c.tape,c.output⟩⟩;intro l b d G;have q:=c.own l b d G;by_cases t:b<w.heap.size;·right;apply qAp;exact λr=>q ⟨t,λl0 I u=>r ⟨l0,I,u⟩⟩
 grind
theorem aA0{rest}{s}{d}{a}{o W}(n:Entry κ ak H w)(p:H.length<=hJ.length)(hs:Sim (bodyC κ ak H w []) d s a o)(A:Go.RowKit.Below o.heap.size o W)(r:o.heap.size<=D)(z:W.heap[D]? =some (.deferred (some [])))
  (B:AW P H.length rest (apI P fn.results.toList H.length T hJ) s.tmps s.heap):rest.wp P (bodyPostM Fence.wide 3 P fn (arl κ ak H T hJ w)) {a with defers:=Ls D} W:=by
 have t:(bodyC κ ak H w (Ls D)).k0.length<=H.length:=qBk n.klen;have k:=(hs.grow A).KU (Ls D);have u:w.heap.size<=D:=qAu hs.size r;have v:=k.rk (D:=D) (qBi.1 z).1 λl h=>by have:=hs.bound l D h;omega
 refine wp_mono (B ((bodyC κ ak H w (Ls D)).rk d s W D) d _ W t v) ?_;have m:∀(g:ASt) (b:aM) (i:Act) (j:World),Ca P fn.results.toList H.length T hJ g.tmps g.heap->Sim ((bodyC κ ak H w (Ls D)).rk d s W D) b g i j->LeavesInM Fence.wide 3 P fn i.tmps (arl κ ak H T hJ w) i.defers .returning j:=λs' b i j q f=>by obtain⟨x,y,C⟩:=k.aEM f;exact aov n p x q (y.trans z) u C
 rintro e i j ⟨g,b,q,f⟩;cases e with|normal=>exact m g b i j q f|ret=>exact m g b i j q f|exit E=>exact q.elim|goto l=>exact q.elim|panic c=>exact q.elim|outgrown=>exact q.elim
theorem aBz{rest s b a d W}(n:Entry κ ak H w)(j:H.length<=H'.length)(hs:Sim (bodyC κ ak H w []) b s a d)(r:Go.RowKit.Below d.heap.size d W)(f:d.heap.size<=D)(q:W.heap[D]? =some (.deferred (some [])))
  (t:AW P H.length rest (aAB v H.length H') s.tmps s.heap):rest.wp P (bodyPostM Fence.wide 3 P fn (aBm κ ak H H' v w)) {a with defers:=Ls D} W:=by
 have k:(bodyC κ ak H w (Ls D)).k0.length<=H.length:=qBk n.klen;have c:=(hs.grow r).KU (Ls D);have g:w.heap.size<=D:=qAu hs.size f;have i:=c.rk (D:=D) (qBi.1 q).1 λl h=>by have:=hs.bound l D h;omega
 refine wp_mono (t ((bodyC κ ak H w (Ls D)).rk b s W D) b _ W k i) ?_;rintro e z A ⟨B,u,⟨rfl,x⟩,m⟩;obtain⟨o,p,y⟩:=c.aEM m;exact azO n j o x (p.trans q) g y
theorem aDg{s c a b W}(e:Entry κ ak H w)(j:H.length<=hJ.length)(hs:Sim (bodyC κ ak H w []) c s a b)(f:Go.RowKit.Below b.heap.size b W)(d:b.heap.size<=D)(g:W.heap[D]? =some (.deferred (some [])))
  (q:Ca P fn.results.toList H.length T hJ s.tmps s.heap):bodyPostM Fence.wide 3 P fn (arl κ ak H T hJ w) .ret {a with defers:=Ls D} W:=
 aov e j ((hs.grow f).KU (Ls D)) q g (qAu hs.size d) λl h=>by have:=hs.bound l D h;omega
end
section
variable {P:Program}{te:Nat}{θ:Nat→Option ET}{n:Nat}{hs:List (Nat×Hn)}{E:List Ent}{ps eds:List Ed}{h0:List TObj}{c:Code}{p:Nat}{s:DS}{R:Type}{f:DS→Option R}{τ:Nat→TI}
theorem aCA{rvs}{T}{j}{y}(u:τ=TI.of P)(D:∀e∈E,ah P te e)(v:wR P te=true)(i:P.follows .mixedOrders=true)(w:eT (aC ps) [] [] eds=true)(F:h0.length=aC ps)(G:Gn (aC ps) h0=true)(x:St (aC ps) h0 s)
  (h:exe ⟨τ,θ,n,RT (some eds) R,hs,aC ps,te,Sb (aC ps) (some eds)⟩ E (λs=>RT.ok (some eds) (f s)) c _ p s some (λe s=>match e with| .normal=>RT.ok (some eds) (f s)|_=>none)=some (PZ.ok y)) (A:∀s,St (aC ps) h0 s->f s=some y->Ca P rvs (aC ps) T j (aT s.h s.t) (aA s.h)):
  AW P (aC ps) c (apI P rvs (aC ps) T j) (aT s.h s.t) (aA s.h):=by
 subst u;have d:∀{t B:List AV} {h C:List AObj},Le (aC ps) t h B C->Ca P rvs (aC ps) T j B C->Ca P rvs (aC ps) T j t h:=λhl ⟨H,I,J,K,L,M⟩=>⟨H,I,J,hl.trans K,L,M⟩;have a:∀{o:Option R},RT.ok (some eds) o=some (PZ.ok y)->o=some y:=λ{o} h=>by
  cases o with|none=>cases h|some Q=>cases h;rfl
 refine(Z7 (n:=n) (hs:=hs) (te:=te) (pn:=Sb (aC ps) (some eds)) (ret:=λs=>RT.ok (some eds) (f s)) (m:=aC ps) (h0:=h0) D v i c _ p s _ _ _ x h).mono λe t S N=>?_;cases N with|ret k b q g=>cases g;exact d k (A _ b (a q))|oO k b q g=>cases g;obtain⟨z,O,_⟩:=ab1 (r:=[]) (h2:=[]) w F G b q;cases O|go k b q g=>
  cases e with|normal=>exact d k (A _ b (a g))|exit U=>cases g|goto l=>cases g|ret=>cases g|panic c=>cases g|outgrown=>cases g
theorem aCt{r}{h2}{v}{z}(d:τ=TI.of P)(u:∀e∈E,ah P te e)(j:wR P te=true)(i:P.follows .mixedOrders=true)(w:eT (aC ps) [] [] eds=true)(x:h0.length=aC ps)(y:Gn (aC ps) h0=true)(k:St (aC ps) h0 s)
  (h:exe ⟨τ,θ,n,RT (some eds) R,hs,aC ps,te,Sb (aC ps) (some eds)⟩ E (λs=>RT.ok (some eds) (f s)) c _ p s some (λe s=>match e with| .normal=>RT.ok (some eds) (f s)|_=>none)=some (PZ.er v z)) (A:dJ bI eds (eD _ z) (dn 0) h0=(r,h2)):
  AW P (aC ps) c (aAB (BA te v) (aC ps) (aA h2)) (aT s.h s.t) (aA s.h):=by
 subst d;have a:∀{o:Option R},RT.ok (some eds) o=some (PZ.er v z)->False:=λ{o} h=>by
  cases o with|none=>cases h|some F=>cases h
 refine(Z7 (n:=n) (hs:=hs) (te:=te) (pn:=Sb (aC ps) (some eds)) (ret:=λs=>RT.ok (some eds) (f s)) (m:=aC ps) (h0:=h0) u j i c _ p s _ _ _ k h).mono λe t G B=>?_;cases B with|ret l q g b=>cases b;exact(a g).elim|oO l q g b=>cases b;obtain⟨z,C,D⟩:=ab1 (r:=[]) (h2:=[]) w x y q g;cases C;exact⟨rfl,_,_,l,D r h2 A⟩|go l q g b=>grind
end
end
section
open Go Go.Proofs Go.RowKit Go.Shelf
attribute [local go_sem] Oper.semAt_some
structure Cells5 where
 nm:List UInt8
 k:Int
 n:Int
 s:List UInt8
 ad:Option Addr
 len:Nat
 cap:Nat
def Cells5.a(x:Cells5):Value:=.string ⟨x.nm.toArray⟩
def Cells5.b(x:Cells5):Value:=.int .i64 x.k
def Cells5.c(x:Cells5):Value:=.int .i64 x.n
def Cells5.d(x:Cells5):Value:=.string ⟨x.s.toArray⟩
def Cells5.e(x:Cells5):Value:=.slice x.ad x.len x.cap
def Cells5.agg(x:Cells5):Value:=.agg #[x.a,x.b,x.c,x.d,x.e]
def RO len k:=(List.range k).map λj=>len - 1 - j
theorem aeD len k:RO len (k+1)=RO len k++[len - 1 - k]:=by simp[RO,List.range_succ]
theorem agC len k:(RO len k).length=k:=by simp[RO]
set_option maxRecDepth 100000 in
set_option maxHeartbeats 2000000 in
theorem aAt(F:Fence)n(h7:F.fn 303)(hro:F.round=none)(hn:1<=n)(l Bs a b len cap:Nat)(z:Nat->Cells5)(hreach:len<=140737488355328)(d:b<a)(hBn:Bs<a)(J Jx:List Nat->World->Prop)
  (hY:∀r (x:Nat) W,J r W->r.length<len->YieldAt F (n - 1) Tryz.prog l #[.int .i64 (x:Int),(z x).agg] W λe w=>(e=.returned (.bool true)/\J (r++[x]) w/\Below a W w)∨(e=.returned (.bool false)/\Jx (r++[x]) w))
  (W:World) (hBs:W.cell? ⟨Bs,0,none⟩=some (.slice (some ⟨b,0,none⟩) len cap))
  (hc:∀j,j<len->W.cell? ⟨b,j*5,none⟩=some (z j).a/\W.cell? ⟨b,j*5+1,none⟩=some (z j).b/\W.cell? ⟨b,j*5+2,none⟩=some (z j).c/\W.cell? ⟨b,j*5+3,none⟩=some (z j).d/\W.cell? ⟨b,j*5+4,none⟩=some (z j).e) (h0:J [] W):
  CallsIn F n Tryz.prog 303 #[.func (.yield l) #[] #[],.pointer (some ⟨Bs,0,none⟩)] W λe w=>(∃v,e=.returned v)/\
   ((∃ys,ys=RO len len/\J ys w)∨(∃r,(∃k,k<=len/\r=RO len k)/\Jx r w)):=by
 refine callsIn_of_wp Tryz.func303 rfl h7 ?_ hro;simp only[Tryz.ntmps303,qDo,qAo,qAC,Nat.reduceAdd,Nat.reduceSub,qDL,qDM,List.push_toArray,List.append_toArray,qAs,qAO];have hw1:wrap64 ((len:Int) - 1)=(len:Int) - 1:=by unfold wrap64;omega
 gi_wp2
 gi_loopw [3] (λi wr=>∃k:Nat,k<=len/\i=.int .i64 ((len:Int) - 1 - k)/\J (RO len k) wr/\Below a W wr)
  (λi _=>(intOf i+1).toNat)
 case atStart=>exact⟨0,qBf _,by simp,h0,Below.refl _ _⟩
 case round=>
  obtain⟨k,hk,rfl,s,h⟩:=hrel;have hBs':=(h.cell (p:=⟨Bs,0,none⟩) hBn).trans hBs;by_cases hlt:k<len
  ·obtain⟨fn,tmps,assign,body,hy,hR⟩:=hY _ (len - 1 - k) wr s (by rw[agC];exact hlt);obtain⟨i,hi⟩:∃i,i=len - 1 - k:=⟨_,rfl⟩;have c:(len:Int) - 1 - k=(i:Int):=by omega
   rw[<-hi]at hy hR;rw[c];obtain⟨c1,c2,c3,c4,c5⟩:=hc i (by omega);have c1:=(h.cell (p:=⟨b,i*5,none⟩) d).trans c1;have c2:=(h.cell (p:=⟨b,i*5+1,none⟩) d).trans c2;have c3:=(h.cell (p:=⟨b,i*5+2,none⟩) d).trans c3;have c4:=(h.cell (p:=⟨b,i*5+3,none⟩) d).trans c4;have c5:=(h.cell (p:=⟨b,i*5+4,none⟩) d).trans c5;have hil:i<len:=by omega
   dsimp only[Cells5.agg]at hy;have hi2:i+k+1=len:=by omega
   clear hi c
   gi_wp2
   refine hR.mono ?_;have f:i=len - 1 - k:=by omega
   rintro e W3 (⟨rfl,hJ3,hk3⟩|⟨rfl,g⟩)
   ·gi_wp2
    go_roundw
    case rel=>exact⟨k+1,by omega,by congr 1;omega,by rw[aeD,<-f];exact hJ3,h.trans hk3⟩
    case measure=>simp[intOf];omega
   gi_wp2
   refine bodyPost_ret (results_none rfl _ _ _) rfl ?_;exact⟨⟨_,rfl⟩,.inr ⟨_,⟨k+1,by omega,by rw[aeD,<-f]⟩,g⟩⟩
  obtain rfl:k=len:=by omega
  have c:(k:Int) - 1 - k= -1:=by omega
  rw[c]
  gi_wp2
  go_end0
  exact⟨⟨_,rfl⟩,.inl ⟨_,rfl,s⟩⟩
set_option maxRecDepth 100000 in
set_option maxHeartbeats 1000000 in
theorem aqW F n (a:F.fn 303)(h:F.round=none) l Bs ad cap (J:World->Prop) W (b:W.cell? ⟨Bs,0,none⟩=some (.slice ad 0 cap))(h0:J W):
  CallsIn F n Tryz.prog 303 #[.func (.yield l) #[] #[],.pointer (some ⟨Bs,0,none⟩)] W λe w=>(∃v,e=.returned v)/\J w:=by
 refine callsIn_of_wp Tryz.func303 rfl a ?_ h;simp only[Tryz.ntmps303,qDo,qAo,qAC,Nat.reduceAdd,Nat.reduceSub,qDL,qDM,List.push_toArray,List.append_toArray,qAs,qAO]
 gi_wp2
 gi_loopw [3] (λi r=>i=.int .i64 (-1)/\J r) (λ_ _=>0)
 case atStart=>exact⟨by rfl,h0⟩
 case round=>
  obtain⟨rfl,j⟩:=hrel
  gi_wp2
  go_end0
  exact⟨⟨_,rfl⟩,j⟩
end
section
open Go Go.Proofs Go.RowKit Go.Shelf
attribute [local go_sem] Oper.semAt_some
def Qc(w:World)b(x:Cells5):=(((w.setCell ⟨b,0,none⟩ x.b).setCell ⟨b,1,none⟩ x.c).setCell ⟨b,2,none⟩ x.d).setCell ⟨b,3,none⟩ x.e
theorem CO{B A W}(h:Below B A W) a v (c:a.block<B):Below B (A.setCell a v) (W.setCell a v):=
 ⟨h.os,h.tape,h.output,by simpa[World.setCell]using h.size,λk b=>by
  by_cases e:k=a.block;·subst e;simp only[World.setCell,qBM,h.block _ b]
  rw[Below.heap_setCell _ _ _ _ e,Below.heap_setCell _ _ _ _ e,h.block k b]⟩
theorem awI{B A W}(h:Below B A W){b} x (a:b<B):Below B (Qc A b x) (Qc W b x):=
 CO (CO (CO (CO h _ _ a) _ _ a) _ _ a) _ _ a
theorem aGB l (h:l.size=74):∃f:Nat->Value,l=((List.range 74).map f).toArray:=by
 refine⟨λi=>l.getD i undef,?_⟩;apply Array.ext;·simp[h]
 simp_all
def apK:Code:=.region 2 #[{dst:=some 6,op:=.alloc 222,type:=0,pos:= "eval.go:373",after:=#[],guard:=none},{dst:=none,op:=.store 222 (.tmp 6) (.tmp 18),type:=0,pos:= "eval.go:373",after:=#[{on:=0,ground:=.data},{on:=0,ground:=.phase}],guard:=none}] false
def awl:Code:=.block 1 ((Code.region 3 #[{dst:=some 19,op:=.fieldAddr 222 (.tmp 6) 0,type:=0,pos:= "eval.go:374",after:=#[],guard:=none},{dst:=some 20,op:=.load 9 (.tmp 19),type:=9,pos:= "eval.go:374",after:=#[{on:=0,ground:=.data}],guard:=none},{dst:=some 21,op:=.load 9 (.tmp 3),type:=9,pos:= "eval.go:374",after:=#[],guard:=none},{dst:=some 22,op:=.binOp .eql 9 (.tmp 20) (.tmp 21) 9,type:=4,pos:= "eval.go:374",after:=#[{on:=1,ground:=.data},{on:=2,ground:=.data}],guard:=none}] false).seq
 (.cond (.tmp 22) ((Code.region 4 #[{dst:=some 23,op:=.fieldAddr 222 (.tmp 6) 1,type:=0,pos:= "eval.go:375",after:=#[],guard:=none},{dst:=some 24,op:=.load 40 (.tmp 23),type:=40,pos:= "eval.go:375",after:=#[{on:=0,ground:=.data}],guard:=none},{dst:=none,op:=.store 40 (.tmp 4) (.tmp 24),type:=0,pos:= "eval.go:375",after:=#[{on:=1,ground:=.data},{on:=0,ground:=.phase},{on:=1,ground:=.phase}],guard:=none}] false).seq .ret) .skip))
section
variable (f:Nat→Value)(z:Nat→Cells5)(name:List UInt8)(b3 b4 len:Nat)(w:World)
def Iz(p:List Nat)W:=(∀j∈p,(z j).nm≠name)/\Below w.heap.size w W
def Ixz(c:Code)pre(W):=c=.ret/\∃p j,pre=p++[j]/\(z j).nm=name/\(∀i∈p,(z i).nm≠name)/\Below w.heap.size (Qc w b4 (z j)) W
def tm6(x:Nat)b6:=((((List.range 74).map f).toArray.setIfInBounds 17 (.int .i64 (x))).setIfInBounds 18 (z x).agg).setIfInBounds 6 (.pointer (some ⟨b6,0,none⟩))
def Axz x(a:Act)(W:World):=∃b,w.heap.size<=b/\a={tmps:=tm6 f z x b,defers:=[]}/\W.cell? ⟨b,0,none⟩=some (z x).a/\W.cell? ⟨b,1,none⟩=some (z x).b/\W.cell? ⟨b,2,none⟩=some (z x).c/\W.cell? ⟨b,3,none⟩=some (z x).d/\W.cell? ⟨b,4,none⟩=some (z x).e
set_option maxRecDepth 100000 in
set_option maxHeartbeats 4000000 in
theorem aBd(F:Fence) l n x W (c:Below w.heap.size w W) K
  (k:∀b a,KeepsFrom w.heap.size W a->Below w.heap.size W a->Axz f z w x b a->K b a):
  apK.wpIn (F.inRound l) n Tryz.prog (Exit.then K (λ_ _ _=>False)) {tmps:=(((List.range 74).map f).toArray.setIfInBounds 17 (.int .i64 (x:Int))).setIfInBounds 18 (z x).agg,defers:=[]} W:=by
 unfold apK Cells5.agg Cells5.a Cells5.b Cells5.c Cells5.d Cells5.e;simp only[List.range,List.range.loop,List.map]
 gi_wp2
 have h:=c.size;exact k _ _ ((KeepsOthers.alloc W _).from _) ((Below.refl _ W).alloc h _) ⟨W.heap.size,h,rfl,by simp only[World.cell?,World.alloc_heap_new];rfl,by simp only[World.cell?,World.alloc_heap_new];rfl,by simp only[World.cell?,World.alloc_heap_new];rfl,by simp only[World.cell?,World.alloc_heap_new];rfl,by simp only[World.cell?,World.alloc_heap_new];rfl⟩
set_option maxRecDepth 100000 in
set_option maxHeartbeats 4000000 in
theorem aEa(F:Fence) l n pre x a' W {a ty}(t:f 3=.pointer (some ⟨b3,0,none⟩))(u:f 4=.pointer (some ⟨b4,0,none⟩))
  (m:b3<w.heap.size) (b:b4<w.heap.size) (o:w.cell? ⟨b3,0,none⟩=some (.string ⟨name.toArray⟩)) (q:w.heap[b4]? =some (.cells a ty (0,0))) (v:a.size=4) (y:Iz z name w pre W) (A:Axz f z w x a' W):
  awl.wpIn (F.inRound l) n Tryz.prog (ownPostG w.heap.size (Below w.heap.size) (Iz z name w) (Ixz z name b4 w) (pre++[x]) W) a' W:=by
 obtain⟨D,B,rfl,E,G,H,I,J⟩:=A;obtain⟨d,g⟩:=y;have s:W.cell? ⟨b3,0,none⟩=some (.string ⟨name.toArray⟩):=(g.cell (p:=⟨b3,0,none⟩) m).trans o;have c:W.heap[b4]? =some (.cells a ty (0,0)):=(g.block b4 b).trans q;have e:∀i,i<4->W.cell? ⟨b4,i,none⟩=some (a.getD i undef)/\W.frozen? ⟨b4,i,none⟩=false:=λi K=>by
  constructor;·simp[World.cell?,c,Array.getD,show i<a.size by omega]
  simp[World.frozen?,c]
 have L:=e 0 (by omega);have M:=e 1 (by omega);have N:=e 2 (by omega);have O:=e 3 (by omega);clear e;unfold awl tm6 Cells5.agg;unfold Cells5.a Cells5.b Cells5.c Cells5.d Cells5.e at *;simp only[List.range,List.range.loop,List.map];rw[t,u];by_cases k:(z x).nm=name
 ·have r:((z x).nm==name)=true:=by simpa using k
  gi_wp2
  refine⟨((((KeepsOthers.setCell _ _ _).trans (KeepsOthers.setCell _ _ _)).trans (KeepsOthers.setCell _ _ _)).trans (KeepsOthers.setCell _ _ _)).from _,rfl,pre,x,rfl,k,d,?_⟩;exact awI g (z x) b
 have r:((z x).nm==name)=false:=by simpa using k
 gi_wp2
 refine⟨KeepsFrom.refl _ _,Below.refl _ _,λj C=>?_,g⟩;rcases qAn.1 C with h|h
 ·exact d j h
 rw[qBa.1 h];exact k
end
section
variable (z:Nat→Cells5)(name:List UInt8)(len cap b:Nat)(ad:Option Addr)
theorem aGn F n (t:F.fn 303)(o:F.round=none)(v:1<=n) f w (r:len<=140737488355328)(i:f<w.heap.size)(y:b<w.heap.size∨len=0)(q:len=0∨ad=some ⟨b,0,none⟩)(s:w.cell? ⟨f,0,none⟩=some (.slice ad len cap))
  (A:∀j,j<len->w.cell? ⟨b,j*5,none⟩=some (z j).a/\w.cell? ⟨b,j*5+1,none⟩=some (z j).b/\w.cell? ⟨b,j*5+2,none⟩=some (z j).c/\w.cell? ⟨b,j*5+3,none⟩=some (z j).d/\w.cell? ⟨b,j*5+4,none⟩=some (z j).e):
  SeqStopsK F n Tryz.prog 303 #[.pointer (some ⟨f,0,none⟩)] (λx:Nat=>#[Value.int .i64 x,(z x).agg]) (Below w.heap.size) (λxs=>xs=RO len len) (λpre=>∃k,k<=len/\pre=RO len k) len w:=λl J B W g _ _ C u=>by
 have c:=(g.cell (p:=⟨f,0,none⟩) i).trans s;rcases qDh len with h|h
 ·subst h;exact(aqW F n t o l f ad cap (J []) W c u).mono λe D ⟨m,d⟩=>⟨m,.inl ⟨_,rfl,d⟩⟩
 have a:=y.resolve_right (by omega);obtain rfl:=q.resolve_left (by omega);refine(aAt F n t o v l f w.heap.size b len cap z r a i J B C W c (λj d=>?_) u).mono ?_;·obtain⟨E,G,H,I,K⟩:=A j d;exact⟨(g.cell (p:=⟨b,j*5,none⟩) a).trans E,(g.cell (p:=⟨b,j*5+1,none⟩) a).trans G,(g.cell (p:=⟨b,j*5+2,none⟩) a).trans H,(g.cell (p:=⟨b,j*5+3,none⟩) a).trans I,(g.cell (p:=⟨b,j*5+4,none⟩) a).trans K⟩
 rintro e D ⟨m,⟨M,rfl,d⟩|⟨pre,⟨k,L,rfl⟩,d⟩⟩;·exact⟨m,.inl ⟨_,rfl,d⟩⟩
 exact⟨m,.inr ⟨_,⟨k,L,rfl⟩,d⟩⟩
theorem aAm{len k p j}(c:k<=len)(h:RO len k=p++[j]):j<len/\∀i,j<i->i<len->i∈p:=by
 have l:k=p.length+1:=by have:=congrArg List.length h;rw[agC]at this;simpa using this
 subst l;rw[aeD]at h;obtain⟨a,b⟩:=List.append_inj' h rfl;cases b;refine⟨by omega,λi d e=>?_⟩;rw[<-a];exact qAA.2 ⟨len - 1 - i,qCc.2 (by omega),by omega⟩
theorem aDE{len} i (h:i<len):i∈RO len len:=qAA.2 ⟨len - 1 - i,qCc.2 (by omega),by omega⟩
theorem aFE{Q}{a}{w}{bk b3 b4}{c4}{ty}(ha:a.tmps.size=74)(C:a.tmps.getD 16 undef=.func (.func 303) #[] #[.pointer (some ⟨bk,0,none⟩)])
  (E:a.tmps.getD 3 undef=.pointer (some ⟨b3,0,none⟩)) (h4:a.tmps.getD 4 undef=.pointer (some ⟨b4,0,none⟩))
  (G:b3<w.heap.size) (H:b4<w.heap.size) (I:w.cell? ⟨b3,0,none⟩=some (.string ⟨name.toArray⟩)) (J:w.heap[b4]? =some (.cells c4 ty (0,0))) (L:c4.size=4)
  (g:len<=140737488355328) (M:bk<w.heap.size) (hb:b<w.heap.size∨len=0) (O:len=0∨ad=some ⟨b,0,none⟩) (P:w.cell? ⟨bk,0,none⟩=some (.slice ad len cap))
  (hc:∀j,j<len->w.cell? ⟨b,j*5,none⟩=some (z j).a/\w.cell? ⟨b,j*5+1,none⟩=some (z j).b/\w.cell? ⟨b,j*5+2,none⟩=some (z j).c/\w.cell? ⟨b,j*5+3,none⟩=some (z j).d/\w.cell? ⟨b,j*5+4,none⟩=some (z j).e)
  (o:(∀j,j<len->(z j).nm≠name)->∀D W,w.heap.size<=D->Below w.heap.size w W->W.heap[D]? =some (.deferred (some []))->Q .normal {a with defers:={target:=.collected D,args:=#[]}::a.defers} W)
  (q:∀j,j<len->(z j).nm=name->(∀i,j<i->i<len->(z i).nm≠name)->∀D W,w.heap.size<=D->Below w.heap.size (Qc w b4 (z j)) W->W.heap[D]? =some (.deferred (some []))->Q .ret {a with defers:={target:=.collected D,args:=#[]}::a.defers} W):
  (Code.rangeFunc (.tmp 16) #[17,18] apK awl).wpIn Fence.wide 3 Tryz.prog Q a w:=by
 obtain⟨tm,ds⟩:=a;obtain⟨f,hf⟩:=aGB tm ha;subst hf;have R:f 16=.func (.func 303) #[] #[.pointer (some ⟨bk,0,none⟩)]:=by simpa[Array.getD]using C
 have f3:f 3=.pointer (some ⟨b3,0,none⟩):=by simpa[Array.getD]using E
 have f4:f 4=.pointer (some ⟨b4,0,none⟩):=by simpa[Array.getD]using h4
 have hs4w:(Qc w b4 (z 0)).heap.size=w.heap.size:=by simp[Qc]
 refine wpIn_rangeFunc_ownH (α:=Nat) (F:=Fence.wide) (gf:=303) (lb:=#[.pointer (some ⟨bk,0,none⟩)]) (encs:=λx:Nat=>#[Value.int .i64 (x:Int),(z x).agg]) (Kp:=Below w.heap.size) (S:=λxs=>xs=RO len len) (Sp:=λpre=>∃k,k<=len/\pre=RO len k) (N:=len) (w0:=w)
  rfl (by omega) (by simpa[Act.eval,Array.getD]using R) trivial (enters_of Tryz.func303 (by kernel_rfl) rfl) (aGn z len cap b ad Fence.wide 2 trivial rfl (by omega) bk w g M hb O P hc) belowK_t (belowK_b (qAd _)) (Below.refl _ _) (λ_=>rfl)
  (Iz z name w) (Ixz z name b4 w) ?_ ?_ ⟨λj T=>(by cases T),Below.refl _ _⟩ (Axz f z w) ?_ ?_ ?_ ?_ ?_
 ·exact λs X Y u v m y=>⟨v.1,ownFrom_below (qAd _) (qAd _) s X Y u v.2 m y⟩
 ·rintro c s X Y u ⟨e,p,j,U,V,Z,v⟩ m y;exact⟨e,p,j,U,V,Z,v.grown m (by have:=v.size;simp only[Qc,World.size_setCell]at this;exact this) λk A=>(y k A).1⟩
 ·rintro x a' s X Y u ⟨b6,h6,rfl,k1,k2,k3,k4,k5⟩ m y;have d:=λr e=>(y r e).2;exact⟨b6,h6,rfl,cell_kept k1 m d,cell_kept k2 m d,cell_kept k3 m d,cell_kept k4 m d,cell_kept k5 m d⟩
 ·intro l pre x W K n hK;have h:=aBd f z w Fence.wide l 1 x W n.2 K λa' W' h1 B E=>hK a' W' h1 B ⟨n.1,n.2.trans B⟩ E;refine(congrArg (λt=>Code.wpIn (Fence.wide.inRound l) 1 Tryz.prog apK (Exit.then K λ_ _ _=>False) ⟨t,[]⟩ W) ?_).mpr h;simp
 ·exact λl pre x a' W _ _ n hx _=>aEa f z name b3 b4 w Fence.wide l 1 pre x a' W f3 f4 G H I J L n hx
 ·rintro D xs W hD rfl n A;exact o (λj T=>n.1 j (aDE j T)) D W hD n.2 A
 rintro D c pre W hD ⟨k,A,rfl⟩ ⟨rfl,p,j,U,V,Z,v⟩ hkD;obtain⟨h1,B⟩:=aAm A U;exact wpIn_ret (q j h1 V (λi hi1 hi2=>Z i (B i hi1 hi2)) D W hD v hkD)
end
end
section
open Go Go.Proofs
set_option maxRecDepth 100000
def Ey(n:Nat):Ent:=⟨246,2,[.r 0 .S,.r 1 .I],1,[.r 0 .Lval],List Val,none,none,λx=>Kq n x.1 x.2,λr=>r⟩
theorem ank n:ah Tryz.prog TE (Ey n):=mk n [(58,.lp [.w (.own .val),.r 5 (.own 0),.r 8 .I] 0 [.w (.own .val),.r 5 (.own 0)])] (e:=Ey (n)) (inn:=some) .n @Tryz.func246 (by kernel_rfl) sm λ_=>by kernel_rfl
def Nt(n:Nat):Ent:=⟨247,2,[.r 0 .Ls,.r 1 .S],1,[.r 0 .I],Int,none,none,λx=>WX n x.1 x.2,λr=>r⟩
theorem auX n:ah Tryz.prog TE (Nt n):=mk n [(26,.lp [.r 8 .I] 0 [])] (e:=Nt (n)) (inn:=some) .n @Tryz.func247 (by kernel_rfl) sm λ_=>by kernel_rfl
def azM(_:Nat):Ent:=⟨245,1,[.r 0 (.psl 0 5),.w (.arr .bnd)],1,[.r 0 (.func 303 [.ptr 1 0]),.w (.box [.psl 0 5])],Unit,none,none,λ_=>some (),λ_=>()⟩
theorem aIQ n:ah Tryz.prog TE (azM n):=mk n [] (e:=azM n) (inn:=some) .n @Tryz.func245 (by kernel_rfl) sm λ_=>by kernel_rfl
theorem aDd:kE Tryz.prog 152=true:=by kernel_rfl
section
variable (n:Nat)(name:Str)(cs:List Carrier)(ds:List Decl)(sz:List Int)(mp:List (Str×Val))(bs:List Bound)
def wF:List TObj:=[.box [.lf (.l .car) cs,.lf (.l .dec) ds,.lf (.l .i) sz,.mapr 1,.psl 2 5 none],.mp .val mp,.arr .bnd bs]
def lt0:List TV:=.ptr 0 0:: .lf .s name::List.replicate 72 (.tup [])
def ltA:List TV:=.ptr 0 0:: .lf .s name:: .tup []:: .ptr 3 0:: .ptr 4 0::List.replicate 69 (.tup [])
def lhA:List TObj:=wF cs ds sz mp bs++[.box [.lf .s name],.box [.lf (.n .i64) 0,.lf (.n .i64) 0,.lf .s [],.nils]]
def Uw:List TV:=.ptr 0 0:: .lf .s name:: .tup []:: .ptr 3 0:: .ptr 4 0::List.replicate 7 (.tup [])++[.ptr 0 0,.ptr 0 0,.ptr 0 4,.psl 2 5 none,.func 303 [.ptr 5 0]]++List.replicate 57 (.tup [])
def Ip:List TObj:=lhA name cs ds sz mp bs++[.box [.psl 2 5 none]]
def lhC(v:Val):List TObj:=[.box [.lf (.l .car) cs,.lf (.l .dec) ds,.lf (.l .i) sz,.mapr 1,.psl 2 5 none],.mp .val mp,.arr .bnd bs,.box [.lf .s name],.box [.lf (.n .i64) v.kind,.lf (.n .i64) v.n,.lf .s v.name,.lf (.l .val) v.kids],.box [.psl 2 5 none]]
noncomputable def lkS(t:List TV)(h:List TObj):DS:=⟨t,h,[],[],[],[],[],[]⟩
noncomputable def Xb:Code:=bdy Tryz.f152
theorem lqA:exe ⟨τ,θ,n,Unit,[],3,TE,λ_ _=>none⟩ [] (λ_=>none) (cL Xb) (List TV×List TObj) 2 (lkS (lt0 name) (wF cs ds sz mp bs)) (λ_=>none) (λe s=>match e with| .normal=>some (s.t,s.h)|_=>none)=some (ltA name,lhA name cs ds sz mp bs):=by kernel_rfl
theorem lqB:exe ⟨τ,θ,n,Unit,[],3,TE,λ_ _=>none⟩ [azM n] (λ_=>none) (cL (cL (cR Xb))) (List TV×List TObj) 12 (lkS (ltA name) (lhA name cs ds sz mp bs)) (λ_=>none) (λe s=>match e with| .normal=>some (s.t,s.h)|_=>none)=some (Uw name,Ip name cs ds sz mp bs):=by kernel_rfl
theorem lqI:exe ⟨τ,θ,n,PZ Val Unit,[(14,.jn [.r 7 (.ptr 6 0),.r 8 .B,.w (.box [.I,.I,.S,.Lval])] false),(122,.lp [.r 42 .I,.o 6 .dead] 2 [.o 6 .dead])],3,TE,Sb 3 (some [])⟩ [Ey n,Nt n] (λs=>RT.ok (some []) (BD τ 3 Tryz.f152.results.toList (d9 n).rs some s)) (cR (cR Xb)) (PZ Val Unit) 7 (lkS (Uw name) (Ip name cs ds sz mp bs)) some
  (λe s=>match e with| .normal=>RT.ok (some []) (BD τ 3 Tryz.f152.results.toList (d9 n).rs some s)|_=>none)=acd n cs ds sz mp bs name:=by kernel_rfl
theorem lqC v:BD τ 3 Tryz.f152.results.toList (d9 n).rs some ⟨Uw name,lhC name cs ds sz mp bs v,[],[],[],[],[],[]⟩=some (.mk v.kind v.n v.name v.kids):=by kernel_rfl
end
theorem ayU{C κ s a}{w:World}(h:Sim C κ s a w){b:Nat}{d:List Bound}(E:at? κ 2=some b)(F:obj? s.heap 2=.arr 5 (d.map (ET.enc .bnd))):
  ∃z:Nat->Cells5,∀j,(f:j<d.length)->(z j).nm=(d[j]).name/\w.cell? ⟨b,j*5,none⟩=some (z j).a/\w.cell? ⟨b,j*5+1,none⟩=some (z j).b/\w.cell? ⟨b,j*5+2,none⟩=some (z j).c/\w.cell? ⟨b,j*5+3,none⟩=some (z j).d/\w.cell? ⟨b,j*5+4,none⟩=some (z j).e/\
   Rel w κ (aD C.ak κ s.heap) (.int .i64 (d[j]).v.kind) (z j).b/\Rel w κ (aD C.ak κ s.heap) (.int .i64 (d[j]).v.n) (z j).c/\Rel w κ (aD C.ak κ s.heap) (.str (d[j]).v.name) (z j).d/\Rel w κ (aD C.ak κ s.heap) (.slice ((d[j]).v.kids.map aQ) .shared) (z j).e:=by
 obtain⟨c,e,S,G,H,I,J⟩:=h.arr E F;simp only[qAg]at G H I J;have:∀j,∃x:Cells5,(f:j<d.length)->x.nm=(d[j]).name/\w.cell? ⟨b,j*5,none⟩=some x.a/\w.cell? ⟨b,j*5+1,none⟩=some x.b/\w.cell? ⟨b,j*5+2,none⟩=some x.c/\w.cell? ⟨b,j*5+3,none⟩=some x.d/\w.cell? ⟨b,j*5+4,none⟩=some x.e/\
   Rel w κ (aD C.ak κ s.heap) (.int .i64 (d[j]).v.kind) x.b/\Rel w κ (aD C.ak κ s.heap) (.int .i64 (d[j]).v.n) x.c/\Rel w κ (aD C.ak κ s.heap) (.str (d[j]).v.name) x.d/\Rel w κ (aD C.ak κ s.heap) (.slice ((d[j]).v.kids.map aQ) .shared) x.e:=λj=>by
  by_cases f:j<d.length
  ·have q:∀i,i<5->w.cell? ⟨b,j*5+i,none⟩=some (c.getD (j*5+i) undef)/\Rel w κ (aD C.ak κ s.heap) ((ET.enc .bnd d[j]).getD i .unk) (c.getD (j*5+i) undef):=λi T=>by grind
   have K:ET.enc .bnd d[j]=[.str (d[j]).name,.int .i64 (d[j]).v.kind,.int .i64 (d[j]).v.n,.str (d[j]).v.name,.slice ((d[j]).v.kids.map aQ) .shared]:=by show AV.str (d[j]).name::aQ (d[j]).v=_;obtain⟨L,M,N,O⟩:=(d[j]).v;show _::aQ (Val.mk L M N O)=_;rw[aQ,Kj];rfl
   rw[K]at q;obtain⟨r,n⟩:=q 0 (by omega);obtain⟨o,g⟩:=q 1 (by omega);obtain⟨t,k⟩:=q 2 (by omega);obtain⟨u,l⟩:=q 3 (by omega);obtain⟨v,m⟩:=q 4 (by omega);simp only[List.getD,qAF,qBs,qAv]at n g k l m;obtain⟨P,_⟩:=n.zZ;obtain⟨y,_⟩:=g.sH;obtain⟨A,_⟩:=k.sH;obtain⟨B,_⟩:=l.zZ;obtain⟨Q,p,D,_⟩:=m.lu;refine⟨⟨(d[j]).name,(d[j]).v.kind,(d[j]).v.n,(d[j]).v.name,Q,((d[j]).v.kids.map aQ).length,p⟩,λ_=>⟨rfl,?_,?_,?_,?_,?_,?_,?_,?_,?_⟩⟩;·rw[P]at r;exact r
   ·rw[y]at o;exact o
   ·rw[A]at t;exact t
   ·rw[B]at u;exact u
   ·rw[D]at v;exact v
   ·rw[y]at g;exact g
   ·rw[A]at k;exact k
   ·rw[B]at l;exact l
   rw[D]at m;exact m
  exact⟨⟨[],0,0,[],none,0,0⟩,λh=>absurd h f⟩
 obtain⟨z,R⟩:=qCz this;exact⟨z,λj f=>R j f⟩
theorem azk{s:List Bound}{n}(h:∀j (a:j<s.length),(s[j]).name≠n):s.reverse.find? λb=>b.name==n=none:=by
 rw[qDd];intro b c;obtain⟨j,a,rfl⟩:=qBG.1 (List.mem_reverse.1 c)
 grind
theorem azp{s:List Bound}{n j}hj(h:(s[j]).name=n)(h2:∀i,j<i->(a:i<s.length)->(s[i]).name≠n):s.reverse.find? (λb=>b.name==n)=some s[j]:=by
 have e:s=s.take j++s[j]::s.drop (j+1):=by rw[List.getElem_cons_drop,qDF]
 have:s.reverse=(s.drop (j+1)).reverse++s[j]::(s.take j).reverse:=by grind
 rw[this,List.find?_append,qDd.2,qCy,List.find?_cons_of_pos (by simpa using h)];intro b c;obtain⟨i,a,rfl⟩:=qBG.1 (List.mem_reverse.1 c)
 grind
theorem FT{C κ s a w}(h:Sim C κ s a w){l b j cs v f u g}(m:at? κ l=some b)(i:obj? s.heap l=.box cs)
  (n:Rel w κ (aD C.ak κ s.heap) f g):Rel (w.setCell ⟨b,j,none⟩ u) κ (aD C.ak κ (s.setObj l (.box (cs.set j v))).heap) f g:=by
 refine n.mono (Evo.setCell (.inr ⟨l,m,by rw[i];trivial⟩)) (dw.refl _) ?_;rintro x o (p|⟨k,d,c⟩) _;·exact .inl p
 by_cases e:l=k;·subst e;exact .inr ⟨l,d,by rw[i];trivial⟩
 simp only[ASt.setObj]at c;rw[obj?_set_other e]at c;exact .inr ⟨k,d,c⟩
section
variable (name:Str)(cs:List Carrier)(ds:List Decl)(sz:List Int)(mp:List (Str×Val))(bs:List Bound)
theorem aAk{C κ a w}(h:Sim C κ ⟨aT (Ip name cs ds sz mp bs) (Uw name),aA (Ip name cs ds sz mp bs)⟩ a w){b4}(k:at? κ 4=some b4) x v
  (r1:Rel w κ (aD C.ak κ (aA (Ip name cs ds sz mp bs))) (.int .i64 v.kind) x.b) (r:Rel w κ (aD C.ak κ (aA (Ip name cs ds sz mp bs))) (.int .i64 v.n) x.c) (r3:Rel w κ (aD C.ak κ (aA (Ip name cs ds sz mp bs))) (.str v.name) x.d) (d:Rel w κ (aD C.ak κ (aA (Ip name cs ds sz mp bs))) (.slice (v.kids.map aQ) .shared) x.e):
  Sim C κ ⟨aT (lhC name cs ds sz mp bs v) (Uw name),aA (lhC name cs ds sz mp bs v)⟩ a (Qc w b4 x):=by have s:=h.store (j:=0) (cs:=[.int .i64 0,.int .i64 0,.str [],.slice [] .nils]) k rfl (by simp) r1;have e:=FT (j:=0) (v:=.int .i64 v.kind) (u:=x.b) h (cs:=[.int .i64 0,.int .i64 0,.str [],.slice [] .nils]) k rfl r;have b:=FT (j:=0) (v:=.int .i64 v.kind) (u:=x.b) h (cs:=[.int .i64 0,.int .i64 0,.str [],.slice [] .nils]) k rfl r3;have t:=FT (j:=0) (v:=.int .i64 v.kind) (u:=x.b) h (cs:=[.int .i64 0,.int .i64 0,.str [],.slice [] .nils]) k rfl d;have c:=s.store (j:=1) (cs:=[.int .i64 v.kind,.int .i64 0,.str [],.slice [] .nils]) k rfl (by simp) e;have b:=FT (j:=1) (v:=.int .i64 v.n) (u:=x.c) s (cs:=[.int .i64 v.kind,.int .i64 0,.str [],.slice [] .nils]) k rfl b;have t:=FT (j:=1) (v:=.int .i64 v.n) (u:=x.c) s (cs:=[.int .i64 v.kind,.int .i64 0,.str [],.slice [] .nils]) k rfl t;have f:=c.store (j:=2) (cs:=[.int .i64 v.kind,.int .i64 v.n,.str [],.slice [] .nils]) k rfl (by simp) b;have t:=FT (j:=2) (v:=.str v.name) (u:=x.d) c (cs:=[.int .i64 v.kind,.int .i64 v.n,.str [],.slice [] .nils]) k rfl t;exact f.store (j:=3) (cs:=[.int .i64 v.kind,.int .i64 v.n,.str v.name,.slice [] .nils]) k rfl (by simp) t
theorem atx{κ}{ak}{w}{vs:List Value}{R}(v:Entry κ ak (aA (wF cs ds sz mp bs)) w)(hvl:vs.length=(aT (wF cs ds sz mp bs) [.ptr 0 0,.lf .s name]).length)
  (hr:∀j,j<(aT (wF cs ds sz mp bs) [.ptr 0 0,.lf .s name]).length->Rel w κ (aD ak κ (aA (wF cs ds sz mp bs))) ((aT (wF cs ds sz mp bs) [.ptr 0 0,.lf .s name]).getD j .unk) (vs.getD j undef))
  (o:bs.reverse.find? (λb=>b.name==name)=none->∀f a g D W,Sim (bodyC κ ak (aA (wF cs ds sz mp bs)) w []) f ⟨aT (Ip name cs ds sz mp bs) (Uw name),aA (Ip name cs ds sz mp bs)⟩ a g->Go.RowKit.Below g.heap.size g W->g.heap.size<=D->W.heap[D]? =some (.deferred (some []))->(cR (cR Xb)).wp Tryz.prog (bodyPostM Fence.wide 3 Tryz.prog Tryz.f152 R) {a with defers:=Ls D} W)
  (t:∀b,bs.reverse.find? (λb=>b.name==name)=some b->∀f a g D W,Sim (bodyC κ ak (aA (wF cs ds sz mp bs)) w []) f ⟨aT (lhC name cs ds sz mp bs b.v) (Uw name),aA (lhC name cs ds sz mp bs b.v)⟩ a g->Go.RowKit.Below g.heap.size g W->g.heap.size<=D->W.heap[D]? =some (.deferred (some []))->bodyPostM Fence.wide 3 Tryz.prog Tryz.f152 R .ret {a with defers:=Ls D} W):
  Calls Tryz.prog 152 vs.toArray w R:=by
 have x:wR Tryz.prog TE=true:=by kernel_rfl
 have m:Tryz.prog.follows .mixedOrders=true:=by kernel_rfl
 have hr0:AW Tryz.prog 3 (cL Xb) (ZL 3 (aT (lhA name cs ds sz mp bs) (ltA name)) (aA (lhA name cs ds sz mp bs))) (aT (wF cs ds sz mp bs) (lt0 name)) (aA (wF cs ds sz mp bs)):=
  acg lH (λe he=>by cases he) x m (LP (h:=wF cs ds sz mp bs) (qAd 3)) (lqA 0 name cs ds sz mp bs)
 have hr1:AW Tryz.prog 3 (cL (cL (cR Xb))) (ZL 3 (aT (Ip name cs ds sz mp bs) (Uw name)) (aA (Ip name cs ds sz mp bs))) (aT (lhA name cs ds sz mp bs) (ltA name)) (aA (lhA name cs ds sz mp bs)):=
  acg lH (λe he=>by rw[qBa.1 he];exact aIQ 0) x m (LP (h:=lhA name cs ds sz mp bs) (qAe rfl)) (lqB 0 name cs ds sz mp bs)
 have l:(bodyC κ ak (aA (wF cs ds sz mp bs)) w []).k0.length<=3:=qBk v.klen;refine(callsIn_wide (n:=3)).1 (callsIn_of_wp_marks (fn:=Tryz.f152) (c:=(cL Xb).seq (((cL (cL (cR Xb))).seq (.block 0 (.rangeFunc (.tmp 16) #[17,18] apK awl))).seq (cR (cR Xb)))) Tryz.func152 rfl trivial (wpIn_wide.2 ?_));have y:=QN (fn:=Tryz.f152) v hvl hr;refine wp_seq (wp_mono (hr0 _ κ _ w l y) ?_);rintro e a w1 ⟨s,p,⟨rfl,hl⟩,q⟩;obtain⟨p,q⟩:=hl _ p _ _ l q;refine wp_seq (wp_seq (wp_mono (hr1 _ p _ w1 l q) ?_));rintro e a g ⟨s,f,⟨rfl,hl⟩,d⟩;obtain⟨f,d⟩:=hl _ f _ _ l d;have A:a.tmps.size=74:=d.len;obtain⟨us,e16,hul,hur⟩:=(show Rel _ _ _ (.func 303 [.ptr 5 0]) _ from d.slot 16 (qAe rfl)).Jr;obtain⟨b3,e3,k3⟩:=(show Rel _ _ _ (.ptr 3 0) _ from d.slot 3 (qAe rfl)).qm;obtain⟨B,e4,k4⟩:=(show Rel _ _ _ (.ptr 4 0) _ from d.slot 4 (qAe rfl)).qm
 match us,hul with
 |[u],_=>
 have C:=hur 0 (by simp);simp only[List.getD,qAF,qAv]at C;obtain⟨bk,rfl,k5⟩:=C.qm;obtain⟨c3,ty3,q3,l3,p3,r3⟩:=d.box (cs:=[.str name]) k3 rfl;obtain⟨c4,ty4,q4,l4,p4,r4⟩:=d.box (cs:=[.int .i64 0,.int .i64 0,.str [],.slice [] .nils]) k4 rfl;obtain⟨c5,ty5,q5,l5,p5,r5⟩:=d.box (cs:=[.psl 2 5 bs.length]) k5 rfl;have E:=p3 0 (by simp);obtain⟨e3',_⟩:=(show Rel _ _ _ (.str name) _ from r3 0 (by simp)).zZ;rw[e3']at E;have F:=p5 0 (by simp);have C:Rel _ _ _ (.psl 2 5 bs.length) _:=r5 0 (by simp);generalize c5.getD 0 undef=cv at C F;cases C with|@psl _ _ _ cap ad g1 g2 g3=>
 obtain⟨b,z,hb,had,r⟩:∃(b:Nat) (z:Nat->Cells5),(b<g.heap.size∨bs.length=0)/\(bs.length=0∨ad=some ⟨b,0,none⟩)/\∀j,(k:j<bs.length)->(z j).nm=(bs[j]).name/\g.cell? ⟨b,j*5,none⟩=some (z j).a/\g.cell? ⟨b,j*5+1,none⟩=some (z j).b/\g.cell? ⟨b,j*5+2,none⟩=some (z j).c/\g.cell? ⟨b,j*5+3,none⟩=some (z j).d/\g.cell? ⟨b,j*5+4,none⟩=some (z j).e/\
   Rel g f (aD ak f (aA (Ip name cs ds sz mp bs))) (.int .i64 (bs[j]).v.kind) (z j).b/\Rel g f (aD ak f (aA (Ip name cs ds sz mp bs))) (.int .i64 (bs[j]).v.n) (z j).c/\Rel g f (aD ak f (aA (Ip name cs ds sz mp bs))) (.str (bs[j]).v.name) (z j).d/\Rel g f (aD ak f (aA (Ip name cs ds sz mp bs))) (.slice ((bs[j]).v.kids.map aQ) .shared) (z j).e:=by
  rcases g3.2 with⟨rfl,rfl⟩|⟨b,c,e,h1,rfl,h2,h3⟩
  ·exact⟨0,λ_=>⟨[],0,0,[],none,0,0⟩,.inr (by omega),.inl (by omega),λj k=>absurd k (by omega)⟩
  obtain⟨z,r⟩:=ayU d h1 rfl;exact⟨b,z,.inl (d.bound 2 b h1),.inr rfl,r⟩
 have hd0:a.defers=[]:=d.defers;obtain⟨tm,dfs⟩:=a;subst hd0;refine wp_block (wpIn_wide.1 (aFE z name bs.length cap b ad (w:=g) (bk:=bk) (b3:=b3) (b4:=B) A e16 e3 e4 (d.bound 3 b3 k3) (d.bound 4 B k4) E q4 l4 g2 (d.bound 5 bk k5) hb had F (λj k=>?_) ?_ ?_));·obtain⟨_,c1,c2,c3,c4,c5,_⟩:=r j k;exact⟨c1,c2,c3,c4,c5⟩
 ·intro hno D W hD hB hk;exact o (azk λj k=>by rw[<-(r j k).1];exact hno j k) f _ g D W d hB hD hk
 intro j k hnm hgt D W hD hB hk;obtain⟨z1,_,_,_,_,_,z2,z3,z4,z5⟩:=r j k;have hsC:=aAk name cs ds sz mp bs d k4 (z j) (bs[j]).v z2 z3 z4 z5;have G:(Qc g B (z j)).heap.size=g.heap.size:=by simp[Qc]
 exact t bs[j] (azp k (z1▸hnm) λi h1 h2=>by rw[<-(r i h2).1];exact hgt i h1 h2) f _ (Qc g B (z j)) D W hsC (by rw[G];exact hB) (by rw[G];exact hD) hk
end
theorem ax8 name cs ds sz mp bs:St 3 (wF cs ds sz mp bs) (lkS (Uw name) (Ip name cs ds sz mp bs)):=
 ⟨(LP (m:=0) (h:=Ip name cs ds sz mp bs) (t:=Uw name) (qBf _)).inv,qAe rfl,λl a _=>by
  match l,a with|0,_=>exact .inl rfl|1,_=>exact .inl rfl|2,_=>exact .inl rfl⟩
theorem aE0 name cs ds sz mp bs v:St 3 (wF cs ds sz mp bs) ⟨Uw name,lhC name cs ds sz mp bs v,[],[],[],[],[],[]⟩:=
 ⟨(LP (m:=0) (h:=lhC name cs ds sz mp bs v) (t:=Uw name) (qBf _)).inv,qAe rfl,λl a _=>by
  match l,a with|0,_=>exact .inl rfl|1,_=>exact .inl rfl|2,_=>exact .inl rfl⟩
theorem Wv n:ah Tryz.prog TE (d9 n):=by
 refine⟨aDd,by kernel_rfl,λx y i t h A=>?_⟩;obtain⟨m,c,d,f,p,g⟩:=x;obtain⟨rfl,rfl⟩:t=[.ptr 0 0,.lf .s m]/\h=wF c d f p g:=⟨(congrArg Prod.fst A).symm,(congrArg Prod.snd A).symm⟩;clear A;have i:mq n c d f p g m=some y:=i;unfold mq at i;have S:∀T∈[Ey n,Nt n],ah Tryz.prog TE T:=λe' J=>by
  rcases qAh.1 J with rfl|J
  ·exact ank n
  rw[qBa.1 J];exact auX n
 have H:wR Tryz.prog TE=true:=by kernel_rfl
 have q:Tryz.prog.follows .mixedOrders=true:=by kernel_rfl
 have U:=lqI n m c d f p g
 match y,i with
 |PZ.ok V,i=>
  show ∀r j,dJ bI (d9 n).rs (eD _ ((d9 n).out V)) (dn 1) (wF c d f p g)=(r,j)->cK Tryz.prog 152 (aT (wF c d f p g) [.ptr 0 0,.lf .s m]) (aA (wF c d f p g)) (av j (res1 r)) (aA j);intro r j l;have I:=λ(s:DS) (K:St 3 (wF c d f p g) s) (u:BD τ 3 Tryz.f152.results.toList (d9 n).rs some s=some V)=>ajV (h:=[]) (P:=Tryz.prog) (e:=d9 n) (rvs:=Tryz.f152.results.toList) (out:=(d9 n).out) (inn:=some) sm (by kernel_rfl) (h0:=wF c d f p g) rfl rfl rfl K (by rw[<-lH];exact u) l
  have o:(aA (wF c d f p g)).length<=j.length:=by have L:_=j:=congrArg Prod.snd l;rw[<-L];exact qAe rfl
  intro M N w X k B O;refine atx (R:=arl M N (aA (wF c d f p g)) r j w) m c d f p g k B O (λhn C a Q D W u E F G=>?_) λb A C a Q D W u E F G=>?_
  ·rw[hn]at i;exact aA0 k o u E F G (aCA (R:=Val) (eds:=[]) (ps:=(d9 n).ps) lH S H q (by kernel_rfl) rfl rfl (ax8 m c d f p g) (U.trans i) I)
  rw[A]at i;cases i;exact aDg k o u E F G (I ⟨Uw m,lhC m c d f p g b.v,[],[],[],[],[],[]⟩ (aE0 m c d f p g b.v) ((lqC n m c d f p g b.v).trans (congrArg some (by cases b.v;rfl))))
 |PZ.er v z,i=>
  show ∀r j,dJ bI [] (eD _ z) (dn 0) (wF c d f p g)=(r,j)->Cy Tryz.prog 152 (aT (wF c d f p g) [.ptr 0 0,.lf .s m]) (aA (wF c d f p g)) (BA TE v) (aA j);intro r j l;have o:(aA (wF c d f p g)).length<=(aA j).length:=by have L:_=j:=congrArg Prod.snd l;rw[<-L];exact qAe rfl
  intro M N w X k B O;refine atx (R:=aBm M N (aA (wF c d f p g)) (aA j) (BA TE v) w) m c d f p g k B O (λhn C a Q D W u E F G=>?_) λb A C a Q D W u E F G=>?_
  ·rw[hn]at i;exact aBz k o u E F G (aCt (R:=Val) (eds:=[]) (ps:=(d9 n).ps) lH S H q (by kernel_rfl) rfl rfl (ax8 m c d f p g) (U.trans i) l)
  rw[A]at i;cases i
end
section
open Go
def has:List Nat->Nat->Bool|[],_=>false|x::s,l=>bif Nat.beq x l then true else has s l
def need(b:List Nat):List Oper->Nat|[]=>0|o::l=>(match lJ o.op with|some (.func f,_)=>bif has b f then 40 else 3|some _=>3|none=>jg o.op)+need b l
end
end Abs
end Go.Proofs.YtneeginmfjageaaGreat

/-
  Contracts of library functions as entries. Conditions: none.
-/
import Derived.KernelRfl
import Derived.RangeFuncBox
import Derived.RangeFuncNested
import Derived.RangeFuncLeaves
import Derived.Shelf.Abstract
import Derived.WalkKit
import Derived.OwnWalkIn
import Derived.TacticsInMore
import Derived.LoopNIn
import Derived.LoopIn
import Derived.Test.YthgdaonechbgmaaGreatProg
import Derived.Test.YthgdaonechbgmaaGreatCClpoxfde8e3
set_option linter.all false
namespace Go.Proofs.YthgdaonechbgmaaGreat
namespace Abs
section
open Go Go.Proofs
theorem aj9{P:Program}{te:Nat}{e:Ent}(h1:mQ P e.f=true)(h2:JC e=true)(hp:e.pe=none)(h:∀x y,e.F x=some y→∀y',HEq y' y→eH P e.f (aU (dW bS e.ps (fF _ x) (dM e.na) []).2 (dW bS e.ps (fF _ x) (dM e.na) []).1) (aB (dW bS e.ps (fF _ x) (dM e.na) []).2)
  (av (dW bS e.rs (fF _ (e.out y')) (dM e.nr) (dW bS e.ps (fF _ x) (dM e.na) []).2).2 (res1 (dW bS e.rs (fF _ (e.out y')) (dM e.nr) (dW bS e.ps (fF _ x) (dM e.na) []).2).1)) (aB (dW bS e.rs (fF _ (e.out y')) (dM e.nr) (dW bS e.ps (fF _ x) (dM e.na) []).2).2)):ah P te e:=by
 obtain⟨f,na,ps,nr,rs,R,pe,g,F,out⟩:=e;cases hp;refine⟨h1,h2,fun x y hF t h' hb=>?_⟩;have:=h x y hF y HEq.rfl;intro r h2 hb2
 grind
theorem aeW(n:Nat):ah Tryz.prog TE (aez n):=aj9 aGp (by kernel_rfl) rfl fun x y h y' hy=>by
 cases hy;exact ab5 n x.1 x.2 y h
theorem ars{α:Type}{b:Nat}{x y:List α}(h:app b ([]:List α) x=some y):y=x:=by
 unfold app at h
 grind
theorem aHH{α:Type}{b:Nat}{x y:List α}(h:app b ([]:List α) x=some y):y.length*b≤140737488355328:=by
 unfold app at h
 grind
theorem aqj{α:Type}{o:Option α}{y:α}(h:o=some y):o.bind some=some y:=by rw[h];rfl
theorem JN(n:Nat):ah Tryz.prog TE (Zr n):=YR (n:=n) (τ:=τ) (θ:=θ) some yJ (by kernel_rfl) (by kernel_rfl) @Tryz.func63 (by kernel_rfl) (by kernel_rfl) rfl rfl (fun _ _ h=>Option.some.inj h▸rfl) rfl rfl rfl rfl rfl rfl rfl @Tryz.underlying27 (fun _=>by kernel_rfl) (by kernel_rfl) fun x y h=>by
 have e:y=x:=ars h;subst e;exact aBN (el:=.val) (b:=56) (te:=TE) (θ:=θ) (n:=n) yJ (by kernel_rfl) (by kernel_rfl) rfl rfl rfl rfl ⟨rfl,rfl,rfl,rfl⟩ (by simp) (e:=40) (by kernel_rfl) (qAf rfl) (by kernel_rfl) (aHH h) (by kernel_rfl)
theorem RH(b8:Nat)(p0 r:List Val)(h:app b8 ([]:List Val) p0=some r)(hb8:b8=56):eH Tryz.prog 63 [.slice (List.map bf p0) .shared] [] (.psl 0 4 p0.length) [.arr 4 (List.map bf p0)]:=by
 subst hb8;have e:=ars h;subst e;exact(JN 0).2.2 r r h _ _ rfl _ _ rfl
theorem Gb(n:Nat):ah Tryz.prog TE (Vm n):=YR (n:=n) (τ:=τ) (θ:=θ) some yJ (by kernel_rfl) (by kernel_rfl) @Tryz.func63 (by kernel_rfl) (by kernel_rfl) rfl rfl (fun _ _ h=>Option.some.inj h▸rfl) rfl rfl rfl rfl rfl rfl rfl @Tryz.underlying27 (fun _=>by kernel_rfl) (by kernel_rfl) fun _ _ h=>V6 (te:=TE) (θ:=θ) (n:=n) (p:=5) yJ (by kernel_rfl) (by kernel_rfl) (wW (qAd 0)) (Eq.trans (by kernel_rfl) (aqj h))
theorem SK(n:Nat):ah Tryz.prog TE (SQ n):=YR (n:=n) (τ:=τ) (θ:=θ) some yJ (by kernel_rfl) (by kernel_rfl) @Tryz.func306 (by kernel_rfl) (by kernel_rfl) rfl rfl (fun _ _ h=>Option.some.inj h▸rfl) rfl rfl rfl rfl rfl rfl rfl @Tryz.underlying241 (fun _=>by kernel_rfl) (by kernel_rfl) fun _ _ h=>V6 (te:=TE) (θ:=θ) (n:=n) (p:=5) yJ (by kernel_rfl) (by kernel_rfl) (wW (qAd 0)) (Eq.trans (by kernel_rfl) (aqj h))
theorem abt(n:Nat):ah Tryz.prog TE (adr n):=YR (n:=n) (τ:=τ) (θ:=θ) some yJ (by kernel_rfl) (by kernel_rfl) @Tryz.func59 (by kernel_rfl) (by kernel_rfl) rfl rfl (fun _ _ h=>Option.some.inj h▸rfl) rfl rfl rfl rfl rfl rfl rfl @Tryz.underlying26 (fun _=>by kernel_rfl) (by kernel_rfl) fun _ _ h=>V6 (te:=TE) (θ:=θ) (n:=n) (p:=5) yJ (by kernel_rfl) (by kernel_rfl) (wW (qAd 0)) (Eq.trans (by kernel_rfl) (aqj h))
theorem clip_psl{f sz m:Nat}{es:List (List AV)}(hm:es.length=m)(hc:∀(ad:Option Addr) (len cap:Nat),len≤cap→len≤140737488355328→∀W:World,Calls Tryz.prog f #[.slice ad len cap] W fun e W'=>e=.returned (.slice ad len len)∧W'=W):eH Tryz.prog f [.psl 0 sz m] [.arr sz es] (.psl 0 sz m) [.arr sz es]:=by
 subst hm;intro κ ak w vs hen hvl hr;have h0:=hr 0 (by simp)
 match vs,hvl with
 |[v],_=>
 simp only[List.getD,qAG,qAw]at h0;cases h0 with
 |@psl _ _ _ cap a g1 g2 g3=>
  refine(hc a _ cap g1 g2 w).mono ?_;rintro e w' ⟨rfl,rfl⟩;refine⟨_,κ,rfl,Leave.same hen (qCO _ _),.psl (qAd _) g2 ?_⟩;obtain⟨_,⟨ha,hc⟩|⟨b,c,el,hb,ha,hh,hs⟩⟩:=g3
  ·exact⟨rfl,.inl ⟨ha,by omega⟩⟩
  ·exact⟨rfl,.inr ⟨b,c,el,hb,ha,hh,qAs (qAQ sz g1) hs⟩⟩
theorem clip_sh{f:Nat}{es:List (List AV)}(hl:es.length≤140737488355328)(hc:∀(ad:Option Addr) (len cap:Nat),len≤cap→len≤140737488355328→∀W:World,Calls Tryz.prog f #[.slice ad len cap] W fun e W'=>e=.returned (.slice ad len len)∧W'=W):eH Tryz.prog f [.slice es .shared] [] (.slice es .shared) []:=by
 intro κ ak w vs hen hvl hr;have h0:=hr 0 (by simp)
 match vs,hvl with
 |[v],_=>
 simp only[List.getD,qAG,qAw]at h0;cases h0 with
 |@slice _ _ a cap b off sz u h1 h2 h3 h3' h4 h5 h6 ht=>
  refine(hc a es.length cap h3 hl w).mono ?_;rintro e w' ⟨rfl,rfl⟩;refine⟨_,κ,rfl,Leave.same hen (qCO _ _),?_⟩;exact .slice b off sz u h1 h2 (qAd _) h3' h4 h5 h6 trivial
theorem clipS_eq{α:Type}{x y:List α}(h:clipS x=some y):y=x∧x.length≤140737488355328:=by
 unfold clipS at h;cases hb:Nat.ble x.length 140737488355328 with
 |false=>rw[hb]at h;cases h
 |true=>rw[hb]at h;cases h;exact⟨rfl,qAf hb⟩
theorem aaV(n:Nat):ah Tryz.prog TE (aaS n):=aj9 aHz (by kernel_rfl) rfl fun(x:List Val) y h y' hy=>by
 cases hy;exact clip_psl (es:=x.map bf) (qAi _) Ke
theorem clip170(ad:Option Addr)(len cap:Nat)(hc:len≤cap)(hl:len≤140737488355328)(W:World):Calls Tryz.prog 170 #[.slice ad len cap] W fun e W'=>e=.returned (.slice ad len len)∧W'=W:=by
 go_enter Tryz.func170,Tryz.ntmps170
 go_wp2
 go_ret
 exact⟨rfl,rfl⟩
theorem t_slices_Clip_Type(n:Nat):ah Tryz.prog TE (e_slices_Clip_Type n):=aj9 (by kernel_rfl) (by kernel_rfl) rfl fun(x:List Ty) y h y' hy=>by
 cases hy;exact clip_psl (es:=x.map oK) (qAi _) clip170
theorem t_slices_Clone_Type(n:Nat):ah Tryz.prog TE (e_slices_Clone_Type n):=YR (n:=n) (τ:=τ) (θ:=θ) some yJ (by kernel_rfl) (by kernel_rfl) @Tryz.func171 (by kernel_rfl) (by kernel_rfl) rfl rfl (fun _ _ h=>Option.some.inj h▸rfl) rfl rfl rfl rfl rfl rfl rfl @Tryz.underlying30 (fun _=>by kernel_rfl) (by kernel_rfl) fun x y h=>by
 have e:y=x:=ars h;subst e;exact aBN (el:=.ty) (b:=48) (te:=TE) (θ:=θ) (n:=n) yJ (by kernel_rfl) (by kernel_rfl) rfl rfl rfl rfl ⟨rfl,rfl,rfl,rfl⟩ (by simp) (e:=32) (by kernel_rfl) (qAf rfl) (by kernel_rfl) (aHH h) (by kernel_rfl)
theorem clip97(ad:Option Addr)(len cap:Nat)(hc:len≤cap)(hl:len≤140737488355328)(W:World):Calls Tryz.prog 97 #[.slice ad len cap] W fun e W'=>e=.returned (.slice ad len len)∧W'=W:=by
 go_enter Tryz.func97,Tryz.ntmps97
 go_wp2
 go_ret
 exact⟨rfl,rfl⟩
theorem t_slices_Clip_Term_s(n:Nat):ah Tryz.prog TE (e_slices_Clip_Term_s n):=aj9 (by kernel_rfl) (by kernel_rfl) rfl fun(x:List Tm) (y:List Tm) h y' hy=>by
 cases hy;obtain⟨rfl,hl⟩:=clipS_eq h;exact clip_sh (es:=y.map lY) (by simpa using hl) clip97
theorem Vn(n:Nat):ah Tryz.prog TE (U6 n):=aj9 aFq (by kernel_rfl) rfl fun x y h y' hy=>by
 cases hy;exact SC n x y h
end
section
open Go
def Ctx.rk(C:Ctx)(κ:aS)(s:ASt)(w:World)(D:Nat):Ctx:={C with old:=fun b=>C.old b∨b=D,w0:=w,pvE:=aH C.ak κ s.heap}
theorem Sim.rk{C:Ctx}{κ:aS}{s:ASt}{a:Act}{w:World}(h:Sim C κ s a w){D:Nat}(hD:D<w.heap.size)(hf:∀l,at? κ l≠some D):Sim (C.rk κ s w D) κ s a w where
 defers:=h.defers
 len:=h.len
 slot:=h.slot
 klen:=h.klen
 kext:=h.kext
 resv:=h.resv
 obj:=h.obj
 apart:=h.apart
 own:=fun l b h1 h2 ho=>by
  rcases ho with ho|ho
  ·exact h.own l b h1 h2 ho
  ·exact hf l (by rw[h1,ho])
 bound:=h.bound
 pvold:=fun b o hp=>.inl (h.pvold b o hp)
 oldlt:=fun b hb=>by
  rcases hb with hb|hb
  ·exact qAB (h.oldlt b hb) h.size
  ·rw[hb];exact hD
 old:=fun _ _=>rfl
 os:=rfl
 tape:=rfl
 output:=rfl
 size:=qAd _
 pvsub:=fun _ _ hp _=>hp
 ny:=Evo.refl _ _
theorem Sim.aHW{C:Ctx}{κ:aS}{s:ASt}{a:Act}{w:World}(h:Sim C κ s a w){D:Nat}{κ':aS}{s':ASt}{a':Act}{w':World}(h':Sim (C.rk κ s w D) κ' s' a' w'):Sim C κ' s' a' w'∧w'.heap[D]? =w.heap[D]?∧∀l,at? κ' l=some D→¬live (obj? s'.heap l):=
 ⟨{
   defers:=h'.defers
   len:=h'.len
   slot:=h'.slot
   klen:=h'.klen
   kext:=h'.kext
   resv:=h'.resv
   obj:=h'.obj
   apart:=h'.apart
   own:=fun l b h1 h2 ho=>h'.own l b h1 h2 (.inl ho)
   bound:=h'.bound
   pvold:=h.pvold
   oldlt:=h.oldlt
   old:=fun b hb=>(h'.old b (.inl hb)).trans (h.old b hb)
   os:=h'.os.trans h.os
   tape:=h'.tape.trans h.tape
   output:=h'.output.trans h.output
   size:=qAs h.size h'.size
   pvsub:=fun b o hp hlt=>h.pvsub b o (h'.pvsub b o hp (qAB hlt h.size)) hlt
   ny:=h.ny.trans h'.ny fun x o hp hlt=>h.pvsub x o hp hlt},
  h'.old D (.inr rfl),fun l h1 h2=>h'.own l D h1 h2 (.inr rfl)⟩
def asn(κ:aS)(ak:bU)(H:List AObj)(T:List TV)(hJ:List TObj)(w:World)(e:Ending)(w':World):Prop:=∃v' κ',e=Ending.returned v'∧Leave κ κ' ak H (aB hJ) w w'∧Rel w' κ' (aH ak κ' (aB hJ)) (av hJ (res1 T)) v'
def aCp(κ:aS)(ak:bU)(H H':List AObj)(v:Value)(w:World)(e:Ending)(w':World):Prop:=∃κ',e=Ending.panicked [{v,recovered:=false}]∧Leave κ κ' ak H H' w w'
section
variable {P:Program}{fn:Func}{κ:aS}{ak:bU}{w:World}{H H':List AObj}{T:List TV}{hJ:List TObj}{D:Nat}{v:Value}
def NM(D:Nat):List Deferred:=[{target:=.collected D,args:=#[]}]
theorem apN(hen:Entry κ ak H w)(hJl:H.length≤hJ.length){s:ASt}{κ':aS}{a:Act}{w':World}(hs:Sim (bodyC κ ak H w (NM D)) κ' s a w')(hq:BQ P fn.results.toList H.length T hJ s.tmps s.heap)(hD:w'.heap[D]? =some (.deferred (some [])))(hn:w.heap.size≤D)(hl:∀l,at? κ' l=some D→¬live (obj? s.heap l)):
  LeavesInM Fence.wide 3 P fn a.tmps (asn κ ak H T hJ w) a.defers .returning w':=by
 have hs6:=hs.alf hD (fun h=>qDb _ (qAB h.1 hn)) hl;rw[hs.defers];obtain⟨u,hv1,hv2⟩:=YM hen hJl _ hq hs6;exact⟨by simp,.inl ⟨_,_,rfl,run_takeDeferred hD,u,hv1,hv2⟩⟩
theorem aCx(hen:Entry κ ak H w)(hJl:H.length≤H'.length){s:ASt}{κ':aS}{a:Act}{w':World}(hs:Sim (bodyC κ ak H w (NM D)) κ' s a w')(hq:∃t1 h1,Le H.length s.tmps s.heap t1 h1∧Le H.length [] h1 [] H')(hD:w'.heap[D]? =some (.deferred (some [])))(hn:w.heap.size≤D)(hl:∀l,at? κ' l=some D→¬live (obj? s.heap l)):
  LeavesInM Fence.wide 3 P fn a.tmps (aCp κ ak H H' v w) a.defers (.panicking [{v,recovered:=false}]) w':=by
 have hs6:=hs.alf hD (fun h=>qDb _ (qAB h.1 hn)) hl;have hkl:(bodyC κ ak H w (NM D)).k0.length≤H.length:=qBm hen.klen;obtain⟨t1,h1,q1,q2⟩:=hq;obtain⟨κ1,hs1⟩:=q1 _ κ' a _ hkl hs6;have hsX:Sim (bodyC κ ak H w (NM D)) κ1 ⟨[],h1⟩ {tmps:=#[],defers:=a.defers} _:={hs1 with
  len:=rfl
  slot:=fun n hn=>by cases hn}
 obtain⟨κ2,hs2⟩:=q2 _ κ1 _ _ hkl hsX;rw[hs.defers];refine⟨by simp,.inl ⟨_,_,rfl,run_takeDeferred hD,κ2,rfl,hs2.klen,hJl,hs2.kext,hs2.resv,hs2.obj,?_,hs2.apart,hs2.bound,fun b hb hnl=>hs2.old b ⟨hb,hnl⟩,hs2.ny,hs2.pvsub,hs2.os,hs2.tape,hs2.output⟩⟩;intro l b h1 h2;have hno:=hs2.own l b h1 h2;by_cases hlt:b<w.heap.size
 ·right;apply qAn;intro hne;exact hno ⟨hlt,fun l0 h0 hlv=>hne ⟨l0,h0,hlv⟩⟩
 grind
theorem aCN{rest:Code}{s:ASt}{κ2:aS}{a:Act}{w2 W:World}(hen:Entry κ ak H w)(hJl:H.length≤hJ.length)(hs:Sim (bodyC κ ak H w []) κ2 s a w2)(hb:Go.RowKit.Below w2.heap.size w2 W)(hDn:w2.heap.size≤D)(hD:W.heap[D]? =some (.deferred (some [])))
  (hr:AW P H.length rest (asq P fn.results.toList H.length T hJ) s.tmps s.heap):rest.wp P (bodyPostM Fence.wide 3 P fn (asn κ ak H T hJ w)) {a with defers:=NM D} W:=by
 have hkl:(bodyC κ ak H w (NM D)).k0.length≤H.length:=qBm hen.klen;have hs3:=(hs.grow hb).NK (NM D);have hDw:w.heap.size≤D:=qAs hs.size hDn;have hs4:=hs3.rk (D:=D) (qBi.1 hD).1 fun l h=>by have:=hs.bound l D h;omega
 refine wp_mono (hr ((bodyC κ ak H w (NM D)).rk κ2 s W D) κ2 _ W hkl hs4) ?_;have fin:∀(s':ASt) (κ':aS) (a':Act) (w':World),BQ P fn.results.toList H.length T hJ s'.tmps s'.heap→Sim ((bodyC κ ak H w (NM D)).rk κ2 s W D) κ' s' a' w'→LeavesInM Fence.wide 3 P fn a'.tmps (asn κ ak H T hJ w) a'.defers .returning w':=fun s' κ' a' w' hq hs'=>by
  obtain⟨hs5,hDk,hl⟩:=hs3.aHW hs';exact apN hen hJl hs5 hq (hDk.trans hD) hDw hl
 rintro e a' w' ⟨s',κ',hq,hs'⟩;cases e with
 |normal=>exact fin s' κ' a' w' hq hs'
 |ret=>exact fin s' κ' a' w' hq hs'
 |exit id=>exact hq.elim
 |goto l=>exact hq.elim
 |panic c=>exact hq.elim
 |outgrown=>exact hq.elim
theorem aBW{rest:Code}{s:ASt}{κ2:aS}{a:Act}{w2 W:World}(hen:Entry κ ak H w)(hJl:H.length≤H'.length)(hs:Sim (bodyC κ ak H w []) κ2 s a w2)(hb:Go.RowKit.Below w2.heap.size w2 W)(hDn:w2.heap.size≤D)(hD:W.heap[D]? =some (.deferred (some [])))
  (hr:AW P H.length rest (aC2 v H.length H') s.tmps s.heap):rest.wp P (bodyPostM Fence.wide 3 P fn (aCp κ ak H H' v w)) {a with defers:=NM D} W:=by
 have hkl:(bodyC κ ak H w (NM D)).k0.length≤H.length:=qBm hen.klen;have hs3:=(hs.grow hb).NK (NM D);have hDw:w.heap.size≤D:=qAs hs.size hDn;have hs4:=hs3.rk (D:=D) (qBi.1 hD).1 fun l h=>by have:=hs.bound l D h;omega
 refine wp_mono (hr ((bodyC κ ak H w (NM D)).rk κ2 s W D) κ2 _ W hkl hs4) ?_;rintro e a' w' ⟨s',κ',⟨rfl,hq⟩,hs'⟩;obtain⟨hs5,hDk,hl⟩:=hs3.aHW hs';exact aCx hen hJl hs5 hq (hDk.trans hD) hDw hl
theorem aEv{s:ASt}{κ2:aS}{a:Act}{w2 W:World}(hen:Entry κ ak H w)(hJl:H.length≤hJ.length)(hs:Sim (bodyC κ ak H w []) κ2 s a w2)(hb:Go.RowKit.Below w2.heap.size w2 W)(hDn:w2.heap.size≤D)(hD:W.heap[D]? =some (.deferred (some [])))
  (hq:BQ P fn.results.toList H.length T hJ s.tmps s.heap):bodyPostM Fence.wide 3 P fn (asn κ ak H T hJ w) .ret {a with defers:=NM D} W:=
 apN hen hJl ((hs.grow hb).NK (NM D)) hq hD (qAs hs.size hDn) fun l h=>by have:=hs.bound l D h;omega
end
section
variable {P:Program}{te:Nat}{θ:Nat→Option ET}{n:Nat}{hs:List (Nat×Hn)}{E:List Ent}{ps eds:List Ed}{h0:List TObj}{c:Code}{p:Nat}{s:DS}{R:Type}{f:DS→Option R}{τ:Nat→TI}
theorem aEA{rvs:List ResultVar}{T:List TV}{hJ:List TObj}{y:R}(hτ:τ=TI.of P)(hE:∀e∈E,ah P te e)(hte:uf P te=true)(hmix:P.follows .mixedOrders=true)(edw:fO (aD ps) [] [] eds=true)(hn:h0.length=aD ps)(hH:Ji (aD ps) h0=true)(hst:St (aD ps) h0 s)
  (h:exe ⟨τ,θ,n,RT (some eds) R,hs,aD ps,te,U7 (aD ps) (some eds)⟩ E (fun s=>RT.ok (some eds) (f s)) c _ p s some (fun e s=>match e with| .normal=>RT.ok (some eds) (f s)|_=>none)=some (PZ.ok y)) (hf:∀s,St (aD ps) h0 s→f s=some y→BQ P rvs (aD ps) T hJ (aU s.h s.t) (aB s.h)):
  AW P (aD ps) c (asq P rvs (aD ps) T hJ) (aU s.h s.t) (aB s.h):=by
 subst hτ;have down:∀{t t':List AV} {h h':List AObj},Le (aD ps) t h t' h'→BQ P rvs (aD ps) T hJ t' h'→BQ P rvs (aD ps) T hJ t h:=fun hl ⟨t1,h1,xs,q1,q2,q3⟩=>⟨t1,h1,xs,hl.trans q1,q2,q3⟩;have mapok:∀{o:Option R},RT.ok (some eds) o=some (PZ.ok y)→o=some y:=fun{o} h=>by
  cases o with
  |none=>cases h
  |some y0=>cases h;rfl
 refine(WL (n:=n) (hs:=hs) (te:=te) (pn:=U7 (aD ps) (some eds)) (ret:=fun s=>RT.ok (some eds) (f s)) (m:=aD ps) (h0:=h0) hE hte hmix c _ p s _ _ _ hst h).mono fun e t hh ho=>?_;cases ho with
 |ret g1 g2 g3 g4=>cases g4;exact down g1 (hf _ g2 (mapok g3))
 |qd g1 g2 g3 g4=>
  cases g4;obtain⟨z,e1,_⟩:=aem (r:=[]) (h2:=[]) edw hn hH g2 g3;cases e1
 |go g1 g2 g3 g4=>
  cases e with
  |normal=>exact down g1 (hf _ g2 (mapok g4))
  |exit id=>cases g4
  |goto l=>cases g4
  |ret=>cases g4
  |panic c=>cases g4
  |outgrown=>cases g4
theorem aFb{r:List TV}{h2:List TObj}{v:Int}{z:jI (bM eds)}(hτ:τ=TI.of P)(hE:∀e∈E,ah P te e)(hte:uf P te=true)(hmix:P.follows .mixedOrders=true)(edw:fO (aD ps) [] [] eds=true)(hn:h0.length=aD ps)(hH:Ji (aD ps) h0=true)(hst:St (aD ps) h0 s)
  (h:exe ⟨τ,θ,n,RT (some eds) R,hs,aD ps,te,U7 (aD ps) (some eds)⟩ E (fun s=>RT.ok (some eds) (f s)) c _ p s some (fun e s=>match e with| .normal=>RT.ok (some eds) (f s)|_=>none)=some (PZ.er v z)) (hb:dW bS eds (fF _ z) (dM 0) h0=(r,h2)):
  AW P (aD ps) c (aC2 (Cz te v) (aD ps) (aB h2)) (aU s.h s.t) (aB s.h):=by
 subst hτ;have mapok:∀{o:Option R},RT.ok (some eds) o=some (PZ.er v z)→False:=fun{o} h=>by
  cases o with
  |none=>cases h
  |some y0=>cases h
 refine(WL (n:=n) (hs:=hs) (te:=te) (pn:=U7 (aD ps) (some eds)) (ret:=fun s=>RT.ok (some eds) (f s)) (m:=aD ps) (h0:=h0) hE hte hmix c _ p s _ _ _ hst h).mono fun e t hh ho=>?_;cases ho with
 |ret g1 g2 g3 g4=>cases g4;exact(mapok g3).elim
 |qd g1 g2 g3 g4=>
  cases g4;obtain⟨z,e1,e2⟩:=aem (r:=[]) (h2:=[]) edw hn hH g2 g3;cases e1;exact⟨rfl,_,_,g1,e2 r h2 hb⟩
 |go g1 g2 g3 g4=>
  grind
end
end
section
open Go Go.Proofs Go.RowKit Go.Shelf
attribute [local go_sem] Oper.semAt_some
structure Cells5 where
 nm:List UInt8
 k:Int
 n:Int
 s:List UInt8
 ad:Option Addr
 len:Nat
 cap:Nat
def Cells5.a(x:Cells5):Value:=.string ⟨x.nm.toArray⟩
def Cells5.b(x:Cells5):Value:=.int .i64 x.k
def Cells5.c(x:Cells5):Value:=.int .i64 x.n
def Cells5.d(x:Cells5):Value:=.string ⟨x.s.toArray⟩
def Cells5.e(x:Cells5):Value:=.slice x.ad x.len x.cap
def Cells5.agg(x:Cells5):Value:=.agg #[x.a,x.b,x.c,x.d,x.e]
def UJ(len:Nat)(k:Nat):List Nat:=(List.range k).map fun j=>len - 1 - j
theorem ahy(len:Nat)(k:Nat):UJ len (k+1)=UJ len k++[len - 1 - k]:=by simp[UJ,List.range_succ]
theorem ahO(len:Nat)(k:Nat):(UJ len k).length=k:=by simp[UJ]
set_option maxRecDepth 100000 in
set_option maxHeartbeats 2000000 in
theorem aBo(F:Fence)(n:Nat)(h7:F.fn 273)(hro:F.round=none)(hn:1≤n)(l Bs n₀ b len cap:Nat)(z:Nat→Cells5)(hreach:len≤140737488355328)(hb:b<n₀)(hBn:Bs<n₀)(J Jx:List Nat→World→Prop)
  (hY:∀pre (x:Nat) W,J pre W→pre.length<len→YieldAt F (n - 1) Tryz.prog l #[.int .i64 (x:Int),(z x).agg] W fun e W'=>
   (e=.returned (.bool true)∧J (pre++[x]) W'∧Below n₀ W W')∨(e=.returned (.bool false)∧Jx (pre++[x]) W'))
  (W:World) (hBs:W.cell? ⟨Bs,0,none⟩=some (.slice (some ⟨b,0,none⟩) len cap))
  (hc:∀j,j<len→W.cell? ⟨b,j*5,none⟩=some (z j).a∧W.cell? ⟨b,j*5+1,none⟩=some (z j).b∧W.cell? ⟨b,j*5+2,none⟩=some (z j).c∧W.cell? ⟨b,j*5+3,none⟩=some (z j).d∧W.cell? ⟨b,j*5+4,none⟩=some (z j).e) (h0:J [] W):
  CallsIn F n Tryz.prog 273 #[.func (.yield l) #[] #[],.pointer (some ⟨Bs,0,none⟩)] W fun e W'=>(∃v,e=.returned v)∧
   ((∃ys,ys=UJ len len∧J ys W')∨(∃pre,(∃k,k≤len∧pre=UJ len k)∧Jx pre W')):=by
 refine callsIn_of_wp Tryz.func273 rfl h7 ?_ hro;simp only[Tryz.ntmps273,qDg,qAp,qAA,Nat.reduceAdd,Nat.reduceSub,qDD,qDE,List.push_toArray,List.append_toArray,qAo,qAM];have hw1:wrap64 ((len:Int) - 1)=(len:Int) - 1:=by unfold wrap64;omega
 gi_wp2
 gi_loopw [3] (fun i wr=>∃k:Nat,k≤len∧i=.int .i64 ((len:Int) - 1 - k)∧J (UJ len k) wr∧Below n₀ W wr)
  (fun i _=>(intOf i+1).toNat)
 case atStart=>exact⟨0,qAZ _,by simp,h0,Below.refl _ _⟩
 case round=>
  obtain⟨k,hk,rfl,hJs,hnx⟩:=hrel;have hBs':=(hnx.cell (p:=⟨Bs,0,none⟩) hBn).trans hBs;by_cases hlt:k<len
  ·obtain⟨fn,tmps,assign,body,hy,hR⟩:=hY _ (len - 1 - k) wr hJs (by rw[ahO];exact hlt);obtain⟨i,hi⟩:∃i,i=len - 1 - k:=⟨_,rfl⟩;have hi1:(len:Int) - 1 - k=(i:Int):=by omega
   rw[←hi]at hy hR;rw[hi1];obtain⟨c1,c2,c3,c4,c5⟩:=hc i (by omega);have c1:=(hnx.cell (p:=⟨b,i*5,none⟩) hb).trans c1;have c2:=(hnx.cell (p:=⟨b,i*5+1,none⟩) hb).trans c2;have c3:=(hnx.cell (p:=⟨b,i*5+2,none⟩) hb).trans c3;have c4:=(hnx.cell (p:=⟨b,i*5+3,none⟩) hb).trans c4;have c5:=(hnx.cell (p:=⟨b,i*5+4,none⟩) hb).trans c5;have hil:i<len:=by omega
   dsimp only[Cells5.agg]at hy;have hi2:i+k+1=len:=by omega
   clear hi hi1
   gi_wp2
   refine hR.mono ?_;have hi3:i=len - 1 - k:=by omega
   rintro e W3 (⟨rfl,hJ3,hk3⟩|⟨rfl,hJx3⟩)
   ·gi_wp2
    go_roundw
    case rel=>exact⟨k+1,by omega,by congr 1;omega,by rw[ahy,←hi3];exact hJ3,hnx.trans hk3⟩
    case measure=>simp[intOf];omega
   ·gi_wp2
    refine bodyPost_ret (results_none rfl _ _ _) rfl ?_;exact⟨⟨_,rfl⟩,.inr ⟨_,⟨k+1,by omega,by rw[ahy,←hi3]⟩,hJx3⟩⟩
  ·obtain rfl:k=len:=by omega
   have hi1:(k:Int) - 1 - k= -1:=by omega
   rw[hi1]
   gi_wp2
   go_end0
   exact⟨⟨_,rfl⟩,.inl ⟨_,rfl,hJs⟩⟩
set_option maxRecDepth 100000 in
set_option maxHeartbeats 1000000 in
theorem arN(F:Fence)(n:Nat)(h7:F.fn 273)(hro:F.round=none)(l Bs:Nat)(ad:Option Addr)(cap:Nat)(J:World→Prop)(W:World)(hBs:W.cell? ⟨Bs,0,none⟩=some (.slice ad 0 cap))(h0:J W):
  CallsIn F n Tryz.prog 273 #[.func (.yield l) #[] #[],.pointer (some ⟨Bs,0,none⟩)] W fun e W'=>(∃v,e=.returned v)∧J W':=by
 refine callsIn_of_wp Tryz.func273 rfl h7 ?_ hro;simp only[Tryz.ntmps273,qDg,qAp,qAA,Nat.reduceAdd,Nat.reduceSub,qDD,qDE,List.push_toArray,List.append_toArray,qAo,qAM]
 gi_wp2
 gi_loopw [3] (fun i wr=>i=.int .i64 (-1)∧J wr) (fun _ _=>0)
 case atStart=>exact⟨by rfl,h0⟩
 case round=>
  obtain⟨rfl,hJs⟩:=hrel
  gi_wp2
  go_end0
  exact⟨⟨_,rfl⟩,hJs⟩
end
section
open Go Go.Proofs Go.RowKit Go.Shelf
attribute [local go_sem] Oper.semAt_some
def QM(w:World)(b:Nat)(x:Cells5):World:=(((w.setCell ⟨b,0,none⟩ x.b).setCell ⟨b,1,none⟩ x.c).setCell ⟨b,2,none⟩ x.d).setCell ⟨b,3,none⟩ x.e
theorem Ei{B:Nat}{A W:World}(h:Below B A W)(a:Addr)(v:Value)(ha:a.block<B):Below B (A.setCell a v) (W.setCell a v):=
 ⟨h.os,h.tape,h.output,by simpa[World.setCell]using h.size,fun k hk=>by
  by_cases e:k=a.block
  ·subst e;simp only[World.setCell,qBI,h.block _ hk]
  ·rw[Below.heap_setCell _ _ _ _ e,Below.heap_setCell _ _ _ _ e,h.block k hk]⟩
theorem awT{B:Nat}{A W:World}(h:Below B A W){b:Nat}(x:Cells5)(hb:b<B):Below B (QM A b x) (QM W b x):=
 Ei (Ei (Ei (Ei h _ _ hb) _ _ hb) _ _ hb) _ _ hb
theorem aIB(l:Array Value)(h:l.size=74):∃f:Nat→Value,l=((List.range 74).map f).toArray:=by
 refine⟨fun i=>l.getD i undef,?_⟩;apply Array.ext
 ·simp[h]
 simp_all
def asF:Code:=.region 2 #[{dst:=some 6,op:=.alloc 211,type:=0,pos:= "eval.go:373",after:=#[],guard:=none},{dst:=none,op:=.store 211 (.tmp 6) (.tmp 18),type:=0,pos:= "eval.go:373",after:=#[{on:=0,ground:=.data},{on:=0,ground:=.phase}],guard:=none}] false
def axT:Code:=.block 1 ((Code.region 3 #[{dst:=some 19,op:=.fieldAddr 211 (.tmp 6) 0,type:=0,pos:= "eval.go:374",after:=#[],guard:=none},{dst:=some 20,op:=.load 9 (.tmp 19),type:=9,pos:= "eval.go:374",after:=#[{on:=0,ground:=.data}],guard:=none},{dst:=some 21,op:=.load 9 (.tmp 3),type:=9,pos:= "eval.go:374",after:=#[],guard:=none},{dst:=some 22,op:=.binOp .eql 9 (.tmp 20) (.tmp 21) 9,type:=4,pos:= "eval.go:374",after:=#[{on:=1,ground:=.data},{on:=2,ground:=.data}],guard:=none}] false).seq
 (.cond (.tmp 22) ((Code.region 4 #[{dst:=some 23,op:=.fieldAddr 211 (.tmp 6) 1,type:=0,pos:= "eval.go:375",after:=#[],guard:=none},{dst:=some 24,op:=.load 40 (.tmp 23),type:=40,pos:= "eval.go:375",after:=#[{on:=0,ground:=.data}],guard:=none},{dst:=none,op:=.store 40 (.tmp 4) (.tmp 24),type:=0,pos:= "eval.go:375",after:=#[{on:=1,ground:=.data},{on:=0,ground:=.phase},{on:=1,ground:=.phase}],guard:=none}] false).seq .ret) .skip))
section
variable (f:Nat→Value)(z:Nat→Cells5)(name:List UInt8)(b3 b4 len:Nat)(w:World)
def Iz(pre:List Nat)(W:World):Prop:=(∀j∈pre,(z j).nm≠name)∧Below w.heap.size w W
def Ixz(c:Code)(pre:List Nat)(W:World):Prop:=c=.ret∧∃p j,pre=p++[j]∧(z j).nm=name∧(∀i∈p,(z i).nm≠name)∧Below w.heap.size (QM w b4 (z j)) W
def tm6(x:Nat)(b6:Nat):Array Value:=((((List.range 74).map f).toArray.setIfInBounds 17 (.int .i64 (x:Int))).setIfInBounds 18 (z x).agg).setIfInBounds 6 (.pointer (some ⟨b6,0,none⟩))
def Axz(x:Nat)(a':Act)(W:World):Prop:=∃b6,w.heap.size≤b6∧a'={tmps:=tm6 f z x b6,defers:=[]}∧W.cell? ⟨b6,0,none⟩=some (z x).a∧W.cell? ⟨b6,1,none⟩=some (z x).b∧W.cell? ⟨b6,2,none⟩=some (z x).c∧W.cell? ⟨b6,3,none⟩=some (z x).d∧W.cell? ⟨b6,4,none⟩=some (z x).e
set_option maxRecDepth 100000 in
set_option maxHeartbeats 4000000 in
theorem aB9(F:Fence)(l n:Nat)(x:Nat)(W:World)(hW:Below w.heap.size w W)(K:Act→World→Prop)
  (hK:∀a' W',KeepsFrom w.heap.size W W'→Below w.heap.size W W'→Axz f z w x a' W'→K a' W'):
  asF.wpIn (F.inRound l) n Tryz.prog (Exit.then K (fun _ _ _=>False)) {tmps:=(((List.range 74).map f).toArray.setIfInBounds 17 (.int .i64 (x:Int))).setIfInBounds 18 (z x).agg,defers:=[]} W:=by
 unfold asF Cells5.agg Cells5.a Cells5.b Cells5.c Cells5.d Cells5.e;simp only[List.range,List.range.loop,List.map]
 gi_wp2
 have hsz:=hW.size;exact hK _ _ ((KeepsOthers.alloc W _).from _) ((Below.refl _ W).alloc hsz _) ⟨W.heap.size,hsz,rfl,by simp only[World.cell?,World.alloc_heap_new];rfl,by simp only[World.cell?,World.alloc_heap_new];rfl,by simp only[World.cell?,World.alloc_heap_new];rfl,by simp only[World.cell?,World.alloc_heap_new];rfl,by simp only[World.cell?,World.alloc_heap_new];rfl⟩
set_option maxRecDepth 100000 in
set_option maxHeartbeats 4000000 in
theorem aF9(F:Fence)(l n:Nat)(pre:List Nat)(x:Nat)(a':Act)(W:World){c4:Array Value}{ty:TypeId}(h3:f 3=.pointer (some ⟨b3,0,none⟩))(h4:f 4=.pointer (some ⟨b4,0,none⟩))
  (hb3:b3<w.heap.size) (hb4:b4<w.heap.size) (hc3:w.cell? ⟨b3,0,none⟩=some (.string ⟨name.toArray⟩)) (hc4:w.heap[b4]? =some (.cells c4 ty (0,0))) (hs4:c4.size=4) (hI:Iz z name w pre W) (hA:Axz f z w x a' W):
  axT.wpIn (F.inRound l) n Tryz.prog (ownPostG w.heap.size (Below w.heap.size) (Iz z name w) (Ixz z name b4 w) (pre++[x]) W) a' W:=by
 obtain⟨b6,hb6,rfl,k1,k2,k3,k4,k5⟩:=hA;obtain⟨hI1,hW⟩:=hI;have hc3':W.cell? ⟨b3,0,none⟩=some (.string ⟨name.toArray⟩):=(hW.cell (p:=⟨b3,0,none⟩) hb3).trans hc3;have hc4':W.heap[b4]? =some (.cells c4 ty (0,0)):=(hW.block b4 hb4).trans hc4;have e:∀i,i<4→W.cell? ⟨b4,i,none⟩=some (c4.getD i undef)∧W.frozen? ⟨b4,i,none⟩=false:=fun i hi=>by
  constructor
  ·simp[World.cell?,hc4',Array.getD,show i<c4.size by omega]
  ·simp[World.frozen?,hc4']
 have e0:=e 0 (by omega);have e1:=e 1 (by omega);have e2:=e 2 (by omega);have e3:=e 3 (by omega);clear e;unfold axT tm6 Cells5.agg;unfold Cells5.a Cells5.b Cells5.c Cells5.d Cells5.e at *;simp only[List.range,List.range.loop,List.map];rw[h3,h4];by_cases hn:(z x).nm=name
 ·have hn':((z x).nm==name)=true:=by simpa using hn
  gi_wp2
  refine⟨((((KeepsOthers.setCell _ _ _).trans (KeepsOthers.setCell _ _ _)).trans (KeepsOthers.setCell _ _ _)).trans (KeepsOthers.setCell _ _ _)).from _,rfl,pre,x,rfl,hn,hI1,?_⟩;exact awT hW (z x) hb4
 ·have hn':((z x).nm==name)=false:=by simpa using hn
  gi_wp2
  refine⟨KeepsFrom.refl _ _,Below.refl _ _,fun j hj=>?_,hW⟩;rcases qAr.1 hj with h|h
  ·exact hI1 j h
  ·rw[qAK.1 h];exact hn
end
section
variable (z:Nat→Cells5)(name:List UInt8)(len cap b:Nat)(ad:Option Addr)
theorem aIQ(F:Fence)(n:Nat)(h7:F.fn 273)(hro:F.round=none)(hn:1≤n)(bk:Nat)(w:World)(hreach:len≤140737488355328)(hbk:bk<w.heap.size)(hb:b<w.heap.size∨len=0)(had:len=0∨ad=some ⟨b,0,none⟩)(hck:w.cell? ⟨bk,0,none⟩=some (.slice ad len cap))
  (hc:∀j,j<len→w.cell? ⟨b,j*5,none⟩=some (z j).a∧w.cell? ⟨b,j*5+1,none⟩=some (z j).b∧w.cell? ⟨b,j*5+2,none⟩=some (z j).c∧w.cell? ⟨b,j*5+3,none⟩=some (z j).d∧w.cell? ⟨b,j*5+4,none⟩=some (z j).e):
  SeqStopsK F n Tryz.prog 273 #[.pointer (some ⟨bk,0,none⟩)] (fun x:Nat=>#[Value.int .i64 (x:Int),(z x).agg]) (Below w.heap.size) (fun xs=>xs=UJ len len) (fun pre=>∃k,k≤len∧pre=UJ len k) len w:=fun l J Jx W hW _ _ hY h0=>by
 have hck':=(hW.cell (p:=⟨bk,0,none⟩) hbk).trans hck;rcases qCY len with h|h
 ·subst h;exact(arN F n h7 hro l bk ad cap (J []) W hck' h0).mono fun e W' ⟨he,hj⟩=>⟨he,.inl ⟨_,rfl,hj⟩⟩
 ·have hb':=hb.resolve_right (by omega);obtain rfl:=had.resolve_left (by omega);refine(aBo F n h7 hro hn l bk w.heap.size b len cap z hreach hb' hbk J Jx hY W hck' (fun j hj=>?_) h0).mono ?_
  ·obtain⟨c1,c2,c3,c4,c5⟩:=hc j hj;exact⟨(hW.cell (p:=⟨b,j*5,none⟩) hb').trans c1,(hW.cell (p:=⟨b,j*5+1,none⟩) hb').trans c2,(hW.cell (p:=⟨b,j*5+2,none⟩) hb').trans c3,(hW.cell (p:=⟨b,j*5+3,none⟩) hb').trans c4,(hW.cell (p:=⟨b,j*5+4,none⟩) hb').trans c5⟩
  ·rintro e W' ⟨he,⟨ys,rfl,hj⟩|⟨pre,⟨k,hk,rfl⟩,hj⟩⟩
   ·exact⟨he,.inl ⟨_,rfl,hj⟩⟩
   ·exact⟨he,.inr ⟨_,⟨k,hk,rfl⟩,hj⟩⟩
theorem aA6{len k:Nat}{p:List Nat}{j:Nat}(hk:k≤len)(h:UJ len k=p++[j]):j<len∧∀i,j<i→i<len→i∈p:=by
 have hl:k=p.length+1:=by have:=congrArg List.length h;rw[ahO]at this;simpa using this
 subst hl;rw[ahy]at h;obtain⟨h1,h2⟩:=List.append_inj' h rfl;cases h2;refine⟨by omega,fun i h3 h4=>?_⟩;rw[←h1];exact qAJ.2 ⟨len - 1 - i,qBW.2 (by omega),by omega⟩
theorem aFx{len:Nat}(i:Nat)(h:i<len):i∈UJ len len:=qAJ.2 ⟨len - 1 - i,qBW.2 (by omega),by omega⟩
theorem aGU{Q:Exit→Act→World→Prop}{a:Act}{w:World}{bk b3 b4:Nat}{c4:Array Value}{ty:TypeId}(ha:a.tmps.size=74)(h16:a.tmps.getD 16 undef=.func (.func 273) #[] #[.pointer (some ⟨bk,0,none⟩)])
  (h3:a.tmps.getD 3 undef=.pointer (some ⟨b3,0,none⟩)) (h4:a.tmps.getD 4 undef=.pointer (some ⟨b4,0,none⟩))
  (hb3:b3<w.heap.size) (hb4:b4<w.heap.size) (hc3:w.cell? ⟨b3,0,none⟩=some (.string ⟨name.toArray⟩)) (hc4:w.heap[b4]? =some (.cells c4 ty (0,0))) (hs4:c4.size=4)
  (hreach:len≤140737488355328) (hbk:bk<w.heap.size) (hb:b<w.heap.size∨len=0) (had:len=0∨ad=some ⟨b,0,none⟩) (hck:w.cell? ⟨bk,0,none⟩=some (.slice ad len cap))
  (hc:∀j,j<len→w.cell? ⟨b,j*5,none⟩=some (z j).a∧w.cell? ⟨b,j*5+1,none⟩=some (z j).b∧w.cell? ⟨b,j*5+2,none⟩=some (z j).c∧w.cell? ⟨b,j*5+3,none⟩=some (z j).d∧w.cell? ⟨b,j*5+4,none⟩=some (z j).e)
  (hdone:(∀j,j<len→(z j).nm≠name)→∀D W,w.heap.size≤D→Below w.heap.size w W→W.heap[D]? =some (.deferred (some []))→Q .normal {a with defers:={target:=.collected D,args:=#[]}::a.defers} W)
  (hstop:∀j,j<len→(z j).nm=name→(∀i,j<i→i<len→(z i).nm≠name)→∀D W,w.heap.size≤D→Below w.heap.size (QM w b4 (z j)) W→W.heap[D]? =some (.deferred (some []))→Q .ret {a with defers:={target:=.collected D,args:=#[]}::a.defers} W):
  (Code.rangeFunc (.tmp 16) #[17,18] asF axT).wpIn Fence.wide 3 Tryz.prog Q a w:=by
 obtain⟨tm,ds⟩:=a;obtain⟨f,hf⟩:=aIB tm ha;subst hf;have f16:f 16=.func (.func 273) #[] #[.pointer (some ⟨bk,0,none⟩)]:=by simpa[Array.getD]using h16
 have f3:f 3=.pointer (some ⟨b3,0,none⟩):=by simpa[Array.getD]using h3
 have f4:f 4=.pointer (some ⟨b4,0,none⟩):=by simpa[Array.getD]using h4
 have hs4w:(QM w b4 (z 0)).heap.size=w.heap.size:=by simp[QM]
 refine wpIn_rangeFunc_ownH (α:=Nat) (F:=Fence.wide) (gf:=273) (lb:=#[.pointer (some ⟨bk,0,none⟩)]) (encs:=fun x:Nat=>#[Value.int .i64 (x:Int),(z x).agg]) (Kp:=Below w.heap.size) (S:=fun xs=>xs=UJ len len) (Sp:=fun pre=>∃k,k≤len∧pre=UJ len k) (N:=len) (w0:=w)
  rfl (by omega) (by simpa[Act.eval,Array.getD]using f16) trivial (enters_of Tryz.func273 (by kernel_rfl) rfl) (aIQ z len cap b ad Fence.wide 2 trivial rfl (by omega) bk w hreach hbk hb had hck hc) belowK_t (belowK_b (qAd _)) (Below.refl _ _) (fun _=>rfl)
  (Iz z name w) (Ixz z name b4 w) ?_ ?_ ⟨fun j hj=>(by cases hj),Below.refl _ _⟩ (Axz f z w) ?_ ?_ ?_ ?_ ?_
 ·exact fun s X Y row hs hg hr=>⟨hs.1,ownFrom_below (qAd _) (qAd _) s X Y row hs.2 hg hr⟩
 ·rintro c s X Y row ⟨e,p,j,e2,e3,e4,hs⟩ hg hr;exact⟨e,p,j,e2,e3,e4,hs.grown hg (by have:=hs.size;simp only[QM,World.size_setCell]at this;exact this) fun k hk=>(hr k hk).1⟩
 ·rintro x a' s X Y row ⟨b6,h6,rfl,k1,k2,k3,k4,k5⟩ hg hr;have hr':=fun r e=>(hr r e).2;exact⟨b6,h6,rfl,cell_kept k1 hg hr',cell_kept k2 hg hr',cell_kept k3 hg hr',cell_kept k4 hg hr',cell_kept k5 hg hr'⟩
 ·intro l pre x W K hi hK;have h:=aB9 f z w Fence.wide l 1 x W hi.2 K fun a' W' h1 h2 h3=>hK a' W' h1 h2 ⟨hi.1,hi.2.trans h2⟩ h3;refine(congrArg (fun t=>Code.wpIn (Fence.wide.inRound l) 1 Tryz.prog asF (Exit.then K fun _ _ _=>False) ⟨t,[]⟩ W) ?_).mpr h;simp
 ·intro l pre x a' W _ _ hi hx _;exact aF9 f z name b3 b4 w Fence.wide l 1 pre x a' W f3 f4 hb3 hb4 hc3 hc4 hs4 hi hx
 ·rintro D xs W hD rfl hi hk;exact hdone (fun j hj=>hi.1 j (aFx j hj)) D W hD hi.2 hk
 ·rintro D c pre W hD ⟨k,hk,rfl⟩ ⟨rfl,p,j,e2,e3,e4,hs⟩ hkD;obtain⟨h1,h2⟩:=aA6 hk e2;exact wpIn_ret (hstop j h1 e3 (fun i hi1 hi2=>e4 i (h2 i hi1 hi2)) D W hD hs hkD)
end
end
section
open Go Go.Proofs
set_option maxRecDepth 100000
def Gy(n:Nat):Ent:=⟨217,2,[.r 0 .S,.r 1 .I],1,[.r 0 .Lval],(List Val),none,none,fun x=>MH n x.1 x.2,fun r=>r⟩
theorem aoq(n:Nat):ah Tryz.prog TE (Gy n):=mk n [(58,.lp [.w (.own .val),.r 5 (.own 0),.r 8 .I] 0 [.w (.own .val),.r 5 (.own 0)])] (e:=Gy (n)) (inn:=some) .n @Tryz.func217 (by kernel_rfl) sm fun _=>by kernel_rfl
def Qa(n:Nat):Ent:=⟨218,2,[.r 0 .Ls,.r 1 .S],1,[.r 0 .I],Int,none,none,fun x=>Y1 n x.1 x.2,fun r=>r⟩
theorem awJ(n:Nat):ah Tryz.prog TE (Qa n):=mk n [(26,.lp [.r 8 .I] 0 [])] (e:=Qa (n)) (inn:=some) .n @Tryz.func218 (by kernel_rfl) sm fun _=>by kernel_rfl
def aDd(_:Nat):Ent:=⟨216,1,[.r 0 (.psl 0 5),.w (.arr .bnd)],1,[.r 0 (.func 273 [.ptr 1 0]),.w (.box [.psl 0 5])],Unit,none,none,fun _=>some (),fun _=>()⟩
theorem aLd(n:Nat):ah Tryz.prog TE (aDd n):=mk n [] (e:=aDd n) (inn:=some) .n @Tryz.func216 (by kernel_rfl) sm fun _=>by kernel_rfl
theorem aFH:mQ Tryz.prog 124=true:=by kernel_rfl
section
variable (n:Nat)(name:Str)(cs:List Carrier)(ds:List Decl)(sz:List Int)(mp:List (Str×Val))(bs:List Bound)
def xY:List TObj:=[.box [.lf (.l .car) cs,.lf (.l .dec) ds,.lf (.l .i) sz,.mapr 1,.psl 2 5 none],.mp .val mp,.arr .bnd bs]
def lt0:List TV:=.ptr 0 0:: .lf .s name::List.replicate 72 (.tup [])
def ltA:List TV:=.ptr 0 0:: .lf .s name:: .tup []:: .ptr 3 0:: .ptr 4 0::List.replicate 69 (.tup [])
def lhA:List TObj:=xY cs ds sz mp bs++[.box [.lf .s name],.box [.lf (.n .i64) 0,.lf (.n .i64) 0,.lf .s [],.nils]]
def V7:List TV:=.ptr 0 0:: .lf .s name:: .tup []:: .ptr 3 0:: .ptr 4 0::List.replicate 7 (.tup [])++[.ptr 0 0,.ptr 0 0,.ptr 0 4,.psl 2 5 none,.func 273 [.ptr 5 0]]++List.replicate 57 (.tup [])
def KC:List TObj:=lhA name cs ds sz mp bs++[.box [.psl 2 5 none]]
def lhC(v:Val):List TObj:=[.box [.lf (.l .car) cs,.lf (.l .dec) ds,.lf (.l .i) sz,.mapr 1,.psl 2 5 none],.mp .val mp,.arr .bnd bs,.box [.lf .s name],.box [.lf (.n .i64) v.kind,.lf (.n .i64) v.n,.lf .s v.name,.lf (.l .val) v.kids],.box [.psl 2 5 none]]
noncomputable def YH:Code:=bdy Tryz.f124
theorem lqA:exe ⟨τ,θ,n,Unit,[],3,TE,fun _ _=>none⟩ [] (fun _=>none) (cL YH) (List TV×List TObj) 2 (lkS (lt0 name) (xY cs ds sz mp bs)) (fun _=>none) (fun e s=>match e with| .normal=>some (s.t,s.h)|_=>none)=some (ltA name,lhA name cs ds sz mp bs):=by kernel_rfl
theorem lqB:exe ⟨τ,θ,n,Unit,[],3,TE,fun _ _=>none⟩ [aDd n] (fun _=>none) (cL (cL (cR YH))) (List TV×List TObj) 12 (lkS (ltA name) (lhA name cs ds sz mp bs)) (fun _=>none) (fun e s=>match e with| .normal=>some (s.t,s.h)|_=>none)=some (V7 name,KC name cs ds sz mp bs):=by kernel_rfl
theorem lqI:exe ⟨τ,θ,n,PZ Val Unit,[(14,.jn [.r 7 (.ptr 6 0),.r 8 .B,.w (.box [.I,.I,.S,.Lval])] false),(122,.lp [.r 42 .I,.o 6 .dead] 2 [.o 6 .dead])],3,TE,U7 3 (some [])⟩ [Gy n,Qa n] (fun s=>RT.ok (some []) (yK τ 3 Tryz.f124.results.toList (fB n).rs some s)) (cR (cR YH)) (PZ Val Unit) 7 (lkS (V7 name) (KC name cs ds sz mp bs)) some
  (fun e s=>match e with| .normal=>RT.ok (some []) (yK τ 3 Tryz.f124.results.toList (fB n).rs some s)|_=>none)=adY n cs ds sz mp bs name:=by kernel_rfl
theorem lqC(v:Val):yK τ 3 Tryz.f124.results.toList (fB n).rs some ⟨V7 name,lhC name cs ds sz mp bs v,[],[],[],[],[],[]⟩=some (.mk v.kind v.n v.name v.kids):=by kernel_rfl
end
theorem ayU{C:Ctx}{κ:aS}{s:ASt}{a:Act}{w:World}(h:Sim C κ s a w){b:Nat}{bs:List Bound}(hl:at? κ 2=some b)(ho:obj? s.heap 2=.arr 5 (bs.map (ET.enc .bnd))):
  ∃z:Nat→Cells5,∀j,(hj:j<bs.length)→(z j).nm=(bs[j]).name∧w.cell? ⟨b,j*5,none⟩=some (z j).a∧w.cell? ⟨b,j*5+1,none⟩=some (z j).b∧w.cell? ⟨b,j*5+2,none⟩=some (z j).c∧w.cell? ⟨b,j*5+3,none⟩=some (z j).d∧w.cell? ⟨b,j*5+4,none⟩=some (z j).e∧
   Rel w κ (aH C.ak κ s.heap) (.int .i64 (bs[j]).v.kind) (z j).b∧Rel w κ (aH C.ak κ s.heap) (.int .i64 (bs[j]).v.n) (z j).c∧Rel w κ (aH C.ak κ s.heap) (.str (bs[j]).v.name) (z j).d∧Rel w κ (aH C.ak κ s.heap) (.slice ((bs[j]).v.kids.map bf) .shared) (z j).e:=by
 obtain⟨c,e,h1,h2,h3,h4,h5⟩:=h.arr hl ho;simp only[qAi]at h2 h3 h4 h5;have:∀j,∃x:Cells5,(hj:j<bs.length)→x.nm=(bs[j]).name∧w.cell? ⟨b,j*5,none⟩=some x.a∧w.cell? ⟨b,j*5+1,none⟩=some x.b∧w.cell? ⟨b,j*5+2,none⟩=some x.c∧w.cell? ⟨b,j*5+3,none⟩=some x.d∧w.cell? ⟨b,j*5+4,none⟩=some x.e∧
   Rel w κ (aH C.ak κ s.heap) (.int .i64 (bs[j]).v.kind) x.b∧Rel w κ (aH C.ak κ s.heap) (.int .i64 (bs[j]).v.n) x.c∧Rel w κ (aH C.ak κ s.heap) (.str (bs[j]).v.name) x.d∧Rel w κ (aH C.ak κ s.heap) (.slice ((bs[j]).v.kids.map bf) .shared) x.e:=fun j=>by
  by_cases hj:j<bs.length
  ·have q:∀i,i<5→w.cell? ⟨b,j*5+i,none⟩=some (c.getD (j*5+i) undef)∧Rel w κ (aH C.ak κ s.heap) ((ET.enc .bnd bs[j]).getD i .unk) (c.getD (j*5+i) undef):=fun i hi=>by
    grind
   have he:ET.enc .bnd bs[j]=[.str (bs[j]).name,.int .i64 (bs[j]).v.kind,.int .i64 (bs[j]).v.n,.str (bs[j]).v.name,.slice ((bs[j]).v.kids.map bf) .shared]:=by
    show AV.str (bs[j]).name::bf (bs[j]).v=_;obtain⟨k1,k2,k3,k4⟩:=(bs[j]).v;show _::bf (Val.mk k1 k2 k3 k4)=_;rw[bf,Mc];rfl
   rw[he]at q;obtain⟨r0,s0⟩:=q 0 (by omega);obtain⟨r1,s1⟩:=q 1 (by omega);obtain⟨r2,s2⟩:=q 2 (by omega);obtain⟨r3,s3⟩:=q 3 (by omega);obtain⟨r4,s4⟩:=q 4 (by omega);simp only[List.getD,qAG,qBp,qAw]at s0 s1 s2 s3 s4;obtain⟨e0,_⟩:=s0.BK;obtain⟨e1,_⟩:=s1.uG;obtain⟨e2,_⟩:=s2.uG;obtain⟨e3,_⟩:=s3.BK;obtain⟨ad,cap,e4,_⟩:=s4.mY;refine⟨⟨(bs[j]).name,(bs[j]).v.kind,(bs[j]).v.n,(bs[j]).v.name,ad,((bs[j]).v.kids.map bf).length,cap⟩,fun _=>⟨rfl,?_,?_,?_,?_,?_,?_,?_,?_,?_⟩⟩
   ·rw[e0]at r0;exact r0
   ·rw[e1]at r1;exact r1
   ·rw[e2]at r2;exact r2
   ·rw[e3]at r3;exact r3
   ·rw[e4]at r4;exact r4
   ·rw[e1]at s1;exact s1
   ·rw[e2]at s2;exact s2
   ·rw[e3]at s3;exact s3
   ·rw[e4]at s4;exact s4
  ·exact⟨⟨[],0,0,[],none,0,0⟩,fun h=>absurd h hj⟩
 obtain⟨z,hz⟩:=qCu this;exact⟨z,fun j hj=>hz j hj⟩
theorem ayx{bs:List Bound}{name:Str}(h:∀j (hj:j<bs.length),(bs[j]).name≠name):bs.reverse.find? (fun b=>b.name==name)=none:=by
 rw[qCW];intro b hb;obtain⟨j,hj,rfl⟩:=qBF.1 (List.mem_reverse.1 hb)
 grind
theorem aAf{bs:List Bound}{name:Str}{j:Nat}(hj:j<bs.length)(h1:(bs[j]).name=name)(h2:∀i,j<i→(hi:i<bs.length)→(bs[i]).name≠name):bs.reverse.find? (fun b=>b.name==name)=some bs[j]:=by
 have e:bs=bs.take j++bs[j]::bs.drop (j+1):=by rw[List.getElem_cons_drop,qDw]
 have:bs.reverse=(bs.drop (j+1)).reverse++bs[j]::(bs.take j).reverse:=by
  grind
 rw[this,List.find?_append,qCW.2,qCt,List.find?_cons_of_pos (by simpa using h1)];intro b hb;obtain⟨i,hi,rfl⟩:=qBF.1 (List.mem_reverse.1 hb)
 grind
theorem Iy{C:Ctx}{κ:aS}{s:ASt}{a:Act}{w:World}(h:Sim C κ s a w){l b j:Nat}{cs:List AV}{v v':AV}{u u':Value}(hl:at? κ l=some b)(ho:obj? s.heap l=.box cs)
  (hv:Rel w κ (aH C.ak κ s.heap) v' u'):Rel (w.setCell ⟨b,j,none⟩ u) κ (aH C.ak κ (s.setObj l (.box (cs.set j v))).heap) v' u':=by
 refine hv.mono (Evo.setCell (.inr ⟨l,hl,by rw[ho];trivial⟩)) (dL.refl _) ?_;rintro x o (hx|⟨l',h1',h2'⟩) _
 ·exact .inl hx
 ·by_cases e:l=l'
  ·subst e;exact .inr ⟨l,h1',by rw[ho];trivial⟩
  ·simp only[ASt.setObj]at h2';rw[obj?_set_other e]at h2';exact .inr ⟨l',h1',h2'⟩
section
variable (name:Str)(cs:List Carrier)(ds:List Decl)(sz:List Int)(mp:List (Str×Val))(bs:List Bound)
theorem aBI{C:Ctx}{κ:aS}{a:Act}{w:World}(h:Sim C κ ⟨aU (KC name cs ds sz mp bs) (V7 name),aB (KC name cs ds sz mp bs)⟩ a w){b4:Nat}(k4:at? κ 4=some b4)(x:Cells5)(v:Val)
  (r1:Rel w κ (aH C.ak κ (aB (KC name cs ds sz mp bs))) (.int .i64 v.kind) x.b) (r2:Rel w κ (aH C.ak κ (aB (KC name cs ds sz mp bs))) (.int .i64 v.n) x.c) (r3:Rel w κ (aH C.ak κ (aB (KC name cs ds sz mp bs))) (.str v.name) x.d) (r4:Rel w κ (aH C.ak κ (aB (KC name cs ds sz mp bs))) (.slice (v.kids.map bf) .shared) x.e):
  Sim C κ ⟨aU (lhC name cs ds sz mp bs v) (V7 name),aB (lhC name cs ds sz mp bs v)⟩ a (QM w b4 x):=by
 have s1:=h.store (j:=0) (cs:=[.int .i64 0,.int .i64 0,.str [],.slice [] .nils]) k4 rfl (by simp) r1;have t2:=Iy (j:=0) (v:=.int .i64 v.kind) (u:=x.b) h (cs:=[.int .i64 0,.int .i64 0,.str [],.slice [] .nils]) k4 rfl r2;have t3:=Iy (j:=0) (v:=.int .i64 v.kind) (u:=x.b) h (cs:=[.int .i64 0,.int .i64 0,.str [],.slice [] .nils]) k4 rfl r3;have t4:=Iy (j:=0) (v:=.int .i64 v.kind) (u:=x.b) h (cs:=[.int .i64 0,.int .i64 0,.str [],.slice [] .nils]) k4 rfl r4;have s2:=s1.store (j:=1) (cs:=[.int .i64 v.kind,.int .i64 0,.str [],.slice [] .nils]) k4 rfl (by simp) t2;have t3:=Iy (j:=1) (v:=.int .i64 v.n) (u:=x.c) s1 (cs:=[.int .i64 v.kind,.int .i64 0,.str [],.slice [] .nils]) k4 rfl t3;have t4:=Iy (j:=1) (v:=.int .i64 v.n) (u:=x.c) s1 (cs:=[.int .i64 v.kind,.int .i64 0,.str [],.slice [] .nils]) k4 rfl t4;have s3:=s2.store (j:=2) (cs:=[.int .i64 v.kind,.int .i64 v.n,.str [],.slice [] .nils]) k4 rfl (by simp) t3;have t4:=Iy (j:=2) (v:=.str v.name) (u:=x.d) s2 (cs:=[.int .i64 v.kind,.int .i64 v.n,.str [],.slice [] .nils]) k4 rfl t4;exact s3.store (j:=3) (cs:=[.int .i64 v.kind,.int .i64 v.n,.str v.name,.slice [] .nils]) k4 rfl (by simp) t4
theorem avR{κ:aS}{ak:bU}{w:World}{vs:List Value}{R:Ending→World→Prop}(hen:Entry κ ak (aB (xY cs ds sz mp bs)) w)(hvl:vs.length=(aU (xY cs ds sz mp bs) [.ptr 0 0,.lf .s name]).length)
  (hr:∀j,j<(aU (xY cs ds sz mp bs) [.ptr 0 0,.lf .s name]).length→Rel w κ (aH ak κ (aB (xY cs ds sz mp bs))) ((aU (xY cs ds sz mp bs) [.ptr 0 0,.lf .s name]).getD j .unk) (vs.getD j undef))
  (hdone:bs.reverse.find? (fun b=>b.name==name)=none→∀κ2 a w2 D W,Sim (bodyC κ ak (aB (xY cs ds sz mp bs)) w []) κ2 ⟨aU (KC name cs ds sz mp bs) (V7 name),aB (KC name cs ds sz mp bs)⟩ a w2→Go.RowKit.Below w2.heap.size w2 W→w2.heap.size≤D→W.heap[D]? =some (.deferred (some []))→(cR (cR YH)).wp Tryz.prog (bodyPostM Fence.wide 3 Tryz.prog Tryz.f124 R) {a with defers:=NM D} W)
  (hstop:∀b,bs.reverse.find? (fun b=>b.name==name)=some b→∀κ2 a w2 D W,Sim (bodyC κ ak (aB (xY cs ds sz mp bs)) w []) κ2 ⟨aU (lhC name cs ds sz mp bs b.v) (V7 name),aB (lhC name cs ds sz mp bs b.v)⟩ a w2→Go.RowKit.Below w2.heap.size w2 W→w2.heap.size≤D→W.heap[D]? =some (.deferred (some []))→bodyPostM Fence.wide 3 Tryz.prog Tryz.f124 R .ret {a with defers:=NM D} W):
  Calls Tryz.prog 124 vs.toArray w R:=by
 have hte:uf Tryz.prog TE=true:=by kernel_rfl
 have hmix:Tryz.prog.follows .mixedOrders=true:=by kernel_rfl
 have hr0:AW Tryz.prog 3 (cL YH) (nrm 3 (aU (lhA name cs ds sz mp bs) (ltA name)) (aB (lhA name cs ds sz mp bs))) (aU (xY cs ds sz mp bs) (lt0 name)) (aB (xY cs ds sz mp bs)):=
  WM yJ (fun e he=>by cases he) hte hmix (wW (h:=xY cs ds sz mp bs) (qAd 3)) (lqA 0 name cs ds sz mp bs)
 have hr1:AW Tryz.prog 3 (cL (cL (cR YH))) (nrm 3 (aU (KC name cs ds sz mp bs) (V7 name)) (aB (KC name cs ds sz mp bs))) (aU (lhA name cs ds sz mp bs) (ltA name)) (aB (lhA name cs ds sz mp bs)):=
  WM yJ (fun e he=>by rw[qAK.1 he];exact aLd 0) hte hmix (wW (h:=lhA name cs ds sz mp bs) (qAf rfl)) (lqB 0 name cs ds sz mp bs)
 have hkl:(bodyC κ ak (aB (xY cs ds sz mp bs)) w []).k0.length≤3:=qBm hen.klen;refine(callsIn_wide (n:=3)).1 (callsIn_of_wp_marks (fn:=Tryz.f124) (c:=(cL YH).seq (((cL (cL (cR YH))).seq (.block 0 (.rangeFunc (.tmp 16) #[17,18] asF axT))).seq (cR (cR YH)))) Tryz.func124 rfl trivial (wpIn_wide.2 ?_));have hsim:=UN (fn:=Tryz.f124) hen hvl hr;refine wp_seq (wp_mono (hr0 _ κ _ w hkl hsim) ?_);rintro e a w1 ⟨s,κ1,⟨rfl,hl⟩,hs1⟩;obtain⟨κ1,hs1⟩:=hl _ κ1 _ _ hkl hs1;refine wp_seq (wp_seq (wp_mono (hr1 _ κ1 _ w1 hkl hs1) ?_));rintro e a w2 ⟨s,κ2,⟨rfl,hl⟩,hs2⟩;obtain⟨κ2,hs2⟩:=hl _ κ2 _ _ hkl hs2;have hlen:a.tmps.size=74:=hs2.len;obtain⟨us,e16,hul,hur⟩:=(show Rel _ _ _ (.func 273 [.ptr 5 0]) _ from hs2.slot 16 (qAf rfl)).LD;obtain⟨b3,e3,k3⟩:=(show Rel _ _ _ (.ptr 3 0) _ from hs2.slot 3 (qAf rfl)).sD;obtain⟨b4,e4,k4⟩:=(show Rel _ _ _ (.ptr 4 0) _ from hs2.slot 4 (qAf rfl)).sD
 match us,hul with
 |[u],_=>
 have h5:=hur 0 (by simp);simp only[List.getD,qAG,qAw]at h5;obtain⟨bk,rfl,k5⟩:=h5.sD;obtain⟨c3,ty3,q3,l3,p3,r3⟩:=hs2.box (cs:=[.str name]) k3 rfl;obtain⟨c4,ty4,q4,l4,p4,r4⟩:=hs2.box (cs:=[.int .i64 0,.int .i64 0,.str [],.slice [] .nils]) k4 rfl;obtain⟨c5,ty5,q5,l5,p5,r5⟩:=hs2.box (cs:=[.psl 2 5 bs.length]) k5 rfl;have hc3:=p3 0 (by simp);obtain⟨e3',_⟩:=(show Rel _ _ _ (.str name) _ from r3 0 (by simp)).BK;rw[e3']at hc3;have hc5:=p5 0 (by simp);have h5:Rel _ _ _ (.psl 2 5 bs.length) _:=r5 0 (by simp);generalize c5.getD 0 undef=cv at h5 hc5;cases h5 with
 |@psl _ _ _ cap ad g1 g2 g3=>
 obtain⟨b,z,hb,had,hz⟩:∃(b:Nat) (z:Nat→Cells5),(b<w2.heap.size∨bs.length=0)∧(bs.length=0∨ad=some ⟨b,0,none⟩)∧∀j,(hj:j<bs.length)→(z j).nm=(bs[j]).name∧w2.cell? ⟨b,j*5,none⟩=some (z j).a∧w2.cell? ⟨b,j*5+1,none⟩=some (z j).b∧w2.cell? ⟨b,j*5+2,none⟩=some (z j).c∧w2.cell? ⟨b,j*5+3,none⟩=some (z j).d∧w2.cell? ⟨b,j*5+4,none⟩=some (z j).e∧
   Rel w2 κ2 (aH ak κ2 (aB (KC name cs ds sz mp bs))) (.int .i64 (bs[j]).v.kind) (z j).b∧Rel w2 κ2 (aH ak κ2 (aB (KC name cs ds sz mp bs))) (.int .i64 (bs[j]).v.n) (z j).c∧Rel w2 κ2 (aH ak κ2 (aB (KC name cs ds sz mp bs))) (.str (bs[j]).v.name) (z j).d∧Rel w2 κ2 (aH ak κ2 (aB (KC name cs ds sz mp bs))) (.slice ((bs[j]).v.kids.map bf) .shared) (z j).e:=by
  rcases g3.2 with⟨rfl,rfl⟩|⟨b,c,e,h1,rfl,h2,h3⟩
  ·exact⟨0,fun _=>⟨[],0,0,[],none,0,0⟩,.inr (by omega),.inl (by omega),fun j hj=>absurd hj (by omega)⟩
  ·obtain⟨z,hz⟩:=ayU hs2 h1 rfl;exact⟨b,z,.inl (hs2.bound 2 b h1),.inr rfl,hz⟩
 have hd0:a.defers=[]:=hs2.defers;obtain⟨tm,dfs⟩:=a;subst hd0;refine wp_block (wpIn_wide.1 (aGU z name bs.length cap b ad (w:=w2) (bk:=bk) (b3:=b3) (b4:=b4) hlen e16 e3 e4 (hs2.bound 3 b3 k3) (hs2.bound 4 b4 k4) hc3 q4 l4 g2 (hs2.bound 5 bk k5) hb had hc5 (fun j hj=>?_) ?_ ?_))
 ·obtain⟨_,c1,c2,c3,c4,c5,_⟩:=hz j hj;exact⟨c1,c2,c3,c4,c5⟩
 ·intro hno D W hD hB hk;exact hdone (ayx fun j hj=>by rw[←(hz j hj).1];exact hno j hj) κ2 _ w2 D W hs2 hB hD hk
 ·intro j hj hnm hgt D W hD hB hk;obtain⟨z1,_,_,_,_,_,z2,z3,z4,z5⟩:=hz j hj;have hsC:=aBI name cs ds sz mp bs hs2 k4 (z j) (bs[j]).v z2 z3 z4 z5;have hsz:(QM w2 b4 (z j)).heap.size=w2.heap.size:=by simp[QM]
  exact hstop bs[j] (aAf hj (z1▸hnm) fun i h1 h2=>by rw[←(hz i h2).1];exact hgt i h1 h2) κ2 _ (QM w2 b4 (z j)) D W hsC (by rw[hsz];exact hB) (by rw[hsz];exact hD) hk
end
theorem azg(name:Str)(cs:List Carrier)(ds:List Decl)(sz:List Int)(mp:List (Str×Val))(bs:List Bound):St 3 (xY cs ds sz mp bs) (lkS (V7 name) (KC name cs ds sz mp bs)):=
 ⟨(wW (m:=0) (h:=KC name cs ds sz mp bs) (t:=V7 name) (qAZ _)).inv,qAf rfl,fun l hl _=>by
  match l,hl with
  |0,_=>exact .inl rfl
  |1,_=>exact .inl rfl
  |2,_=>exact .inl rfl⟩
theorem aH9(name:Str)(cs:List Carrier)(ds:List Decl)(sz:List Int)(mp:List (Str×Val))(bs:List Bound)(v:Val):St 3 (xY cs ds sz mp bs) ⟨V7 name,lhC name cs ds sz mp bs v,[],[],[],[],[],[]⟩:=
 ⟨(wW (m:=0) (h:=lhC name cs ds sz mp bs v) (t:=V7 name) (qAZ _)).inv,qAf rfl,fun l hl _=>by
  match l,hl with
  |0,_=>exact .inl rfl
  |1,_=>exact .inl rfl
  |2,_=>exact .inl rfl⟩
theorem Zp(n:Nat):ah Tryz.prog TE (fB n):=by
 refine⟨aFH,by kernel_rfl,fun x y hF t h hb=>?_⟩;obtain⟨name,cs,ds,sz,mp,bs⟩:=x;obtain⟨rfl,rfl⟩:t=[.ptr 0 0,.lf .s name]∧h=xY cs ds sz mp bs:=⟨(congrArg Prod.fst hb).symm,(congrArg Prod.snd hb).symm⟩;clear hb;have hF:nY n cs ds sz mp bs name=some y:=hF;unfold nY at hF;have hE:∀e'∈[Gy n,Qa n],ah Tryz.prog TE e':=fun e' he=>by
  rcases qAh.1 he with rfl|he
  ·exact aoq n
  ·rw[qAK.1 he];exact awJ n
 have hte:uf Tryz.prog TE=true:=by kernel_rfl
 have hmix:Tryz.prog.follows .mixedOrders=true:=by kernel_rfl
 have hi:=lqI n name cs ds sz mp bs
 match y,hF with
 |PZ.ok y0,hF=>
  show ∀r h',dW bS (fB n).rs (fF _ ((fB n).out y0)) (dM 1) (xY cs ds sz mp bs)=(r,h')→eH Tryz.prog 124 (aU (xY cs ds sz mp bs) [.ptr 0 0,.lf .s name]) (aB (xY cs ds sz mp bs)) (av h' (res1 r)) (aB h');intro r h' hb2;have ret:=fun(s:DS) (hst:St 3 (xY cs ds sz mp bs) s) (hs:yK τ 3 Tryz.f124.results.toList (fB n).rs some s=some y0)=>
   ad9 (h:=[]) (P:=Tryz.prog) (e:=fB n) (rvs:=Tryz.f124.results.toList) (out:=(fB n).out) (inn:=some) sm (by kernel_rfl) (h0:=xY cs ds sz mp bs) rfl rfl rfl hst (by rw[←yJ];exact hs) hb2
  have hjl:(aB (xY cs ds sz mp bs)).length≤h'.length:=by
   have e2:_=h':=congrArg Prod.snd hb2;rw[←e2];exact qAf rfl
  intro κ ak w vs hen hvl hr;refine avR (R:=asn κ ak (aB (xY cs ds sz mp bs)) r h' w) name cs ds sz mp bs hen hvl hr (fun hn κ2 a w2 D W hs hB hD hk=>?_) fun b hb κ2 a w2 D W hs hB hD hk=>?_
  ·rw[hn]at hF;exact aCN hen hjl hs hB hD hk (aEA (R:=Val) (eds:=[]) (ps:=(fB n).ps) yJ hE hte hmix (by kernel_rfl) rfl rfl (azg name cs ds sz mp bs) (hi.trans hF) ret)
  ·rw[hb]at hF;cases hF;exact aEv hen hjl hs hB hD hk (ret ⟨V7 name,lhC name cs ds sz mp bs b.v,[],[],[],[],[],[]⟩ (aH9 name cs ds sz mp bs b.v) ((lqC n name cs ds sz mp bs b.v).trans (congrArg some (by cases b.v;rfl))))
 |PZ.er v z,hF=>
  show ∀r h',dW bS [] (fF _ z) (dM 0) (xY cs ds sz mp bs)=(r,h')→Ej Tryz.prog 124 (aU (xY cs ds sz mp bs) [.ptr 0 0,.lf .s name]) (aB (xY cs ds sz mp bs)) (Cz TE v) (aB h');intro r h' hb2;have hjl:(aB (xY cs ds sz mp bs)).length≤(aB h').length:=by
   have e2:_=h':=congrArg Prod.snd hb2;rw[←e2];exact qAf rfl
  intro κ ak w vs hen hvl hr;refine avR (R:=aCp κ ak (aB (xY cs ds sz mp bs)) (aB h') (Cz TE v) w) name cs ds sz mp bs hen hvl hr (fun hn κ2 a w2 D W hs hB hD hk=>?_) fun b hb κ2 a w2 D W hs hB hD hk=>?_
  ·rw[hn]at hF;exact aBW hen hjl hs hB hD hk (aFb (R:=Val) (eds:=[]) (ps:=(fB n).ps) yJ hE hte hmix (by kernel_rfl) rfl rfl (azg name cs ds sz mp bs) (hi.trans hF) hb2)
  ·rw[hb]at hF;cases hF
end
end Abs
end Go.Proofs.YthgdaonechbgmaaGreat

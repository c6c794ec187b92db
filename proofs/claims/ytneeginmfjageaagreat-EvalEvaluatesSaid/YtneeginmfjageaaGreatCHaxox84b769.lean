/-
  Contracts of library functions as entries. Conditions: none.
-/
import Derived.KernelRfl
import Derived.Test.YtneeginmfjageaaGreatCClpox0cad83
import Derived.Test.YtneeginmfjageaaGreatCDfox1afa77
import Derived.Test.YtneeginmfjageaaGreatCP1oxcaf4ce
set_option linter.all false
namespace Go.Proofs.YtneeginmfjageaaGreat
namespace Abs
abbrev c_0:=@cond_false
abbrev c_1:=@cond_true
abbrev d_0:=@decide_eq_false
abbrev d_1:=@decide_eq_true
abbrev e_0:=@Ev.bind
def aj9{P:Program}{te:Nat}{e:Ent}(b:mQ P e.f=true)(h2:JC e=true)(p:e.pe=none)(h:∀x y,e.F x=some y->∀a,HEq a y->eH P e.f (aU (dW bS e.ps (fF _ x) (dM e.na) []).2 (dW bS e.ps (fF _ x) (dM e.na) []).1) (aB (dW bS e.ps (fF _ x) (dM e.na) []).2)
  (av (dW bS e.rs (fF _ (e.out a)) (dM e.nr) (dW bS e.ps (fF _ x) (dM e.na) []).2).2 (res1 (dW bS e.rs (fF _ (e.out a)) (dM e.nr) (dW bS e.ps (fF _ x) (dM e.na) []).2).1)) (aB (dW bS e.rs (fF _ (e.out a)) (dM e.nr) (dW bS e.ps (fF _ x) (dM e.na) []).2).2)):ah P te e:=by
 let⟨f,n,s,i,j,R,k,g,F,o⟩:=e;cases p;refine⟨b,h2,λx y c t l m=>?_⟩;have:=h x y c y HEq.rfl;intro r h2 d
 grind
def aeW(n:Nat):ah Tryz.prog TE (aez n):=aj9 aGp Cs rfl λx y h b a=>by cases a;exact ab5 n x.1 x.2 y h
def ars{α:Type}{b:Nat}{x y:List α}(h:app b ([]:List α) x=some y):y=x:=by
 unfold app at h
 grind
def aHH{x y:Af}(h:app 56 ([]:Af) x=some y):y.length*56<=140737488355328:=by
 unfold app at h
 grind
def aqj{α:Type}{o:Option α}{y:α}(h:o=some y):o.bind some=some y:=by rw[h];rfl
def JN(n:Nat):ah Tryz.prog TE (Zr n):=YR (n:=n) (τ:=τ) (θ:=θ) some yJ Cs Cs @Tryz.func75 Cs Cs rfl rfl (λ_ _ h=>Option.some.inj h▸rfl) rfl rfl rfl rfl rfl rfl rfl @Tryz.underlying27 (λ_=>by kernel_rfl) Cs λx y h=>by have e:y=x:=ars h;subst e;exact aBN (el:=.val) (b:=56) (te:=TE) (θ:=θ) (n:=n) yJ Cs Cs rfl rfl rfl rfl ⟨rfl,rfl,rfl,rfl⟩ cn (e:=40) Cs (qAf rfl) Cs (aHH h) Cs
def RH(a:Nat)(p r:Af)(h:app a ([]:Af) p=some r)(b:a=56):eH Tryz.prog 75 [.slice (List.map bf p) .shared] [] (.psl 0 4 p.length) [.arr 4 (List.map bf p)]:=by subst b;have e:=ars h;subst e;exact(JN 0).2.2 r r h _ _ rfl _ _ rfl
def Gb(n:Nat):ah Tryz.prog TE (Vm n):=YR (n:=n) (τ:=τ) (θ:=θ) some yJ Cs Cs @Tryz.func75 Cs Cs rfl rfl (λ_ _ h=>Option.some.inj h▸rfl) rfl rfl rfl rfl rfl rfl rfl @Tryz.underlying27 (λ_=>by kernel_rfl) Cs λ_ _ h=>V6 (te:=TE) (θ:=θ) (n:=n) (p:=5) yJ Cs Cs (wW (qAd 0)) (Eq.trans Cs (aqj h))
def SK(n:Nat):ah Tryz.prog TE (SQ n):=YR (n:=n) (τ:=τ) (θ:=θ) some yJ Cs Cs @Tryz.func335 Cs Cs rfl rfl (λ_ _ h=>Option.some.inj h▸rfl) rfl rfl rfl rfl rfl rfl rfl @Tryz.underlying174 (λ_=>by kernel_rfl) Cs λ_ _ h=>V6 (te:=TE) (θ:=θ) (n:=n) (p:=5) yJ Cs Cs (wW (qAd 0)) (Eq.trans Cs (aqj h))
def abt(n:Nat):ah Tryz.prog TE (adr n):=YR (n:=n) (τ:=τ) (θ:=θ) some yJ Cs Cs @Tryz.func70 Cs Cs rfl rfl (λ_ _ h=>Option.some.inj h▸rfl) rfl rfl rfl rfl rfl rfl rfl @Tryz.underlying26 (λ_=>by kernel_rfl) Cs λ_ _ h=>V6 (te:=TE) (θ:=θ) (n:=n) (p:=5) yJ Cs Cs (wW (qAd 0)) (Eq.trans Cs (aqj h))
def X7(n:Nat)(p:Af)(r:Af)(h:yA n p=some r):eH Tryz.prog 74 [.psl 0 4 (List.length p)] [.arr 4 (List.map bf p)] (.psl 0 4 (List.length p)) [.arr 4 (List.map bf p)]:=by
 intro m ak w s d l o;have i:=o 0 cn
 match s,l with
 |[v],_=>
 simp only[List.getD,qAG,qAw]at i;cases i with
 |@psl _ _ _ f a j k q=>
  refine(Ke a _ f j k w).mono ?_;rintro e z ⟨rfl,rfl⟩;refine⟨_,m,rfl,Leave.same d (qCO _ _),.psl (qAd _) k ?_⟩;obtain⟨_,⟨g,A⟩|⟨b,c,t,u,g,x,y⟩⟩:=q
  ·exact⟨rfl,.inl ⟨g,by omega⟩⟩
  exact⟨rfl,.inr ⟨b,c,t,u,g,x,qAs (qAQ 4 j) y⟩⟩
def aaV(n:Nat):ah Tryz.prog TE (aaS n):=aj9 aHz Cs rfl λx y h b a=>by cases a;exact X7 n x x rfl
def Vn(n:Nat):ah Tryz.prog TE (U6 n):=aj9 aFq Cs rfl λx y h b a=>by cases a;exact SC n x y h
set_option maxRecDepth 100000
def Et(n:Nat):ah Tryz.prog TE (ajw n):=MKS n [(3,.jn [.r 2 .B] false)] .n @Tryz.func9
def azx(n:Nat):ah Tryz.prog TE (aog n):=MKS n [(12,.jn [.r 3 .B] false),(51,.jn [.r 22 .B] false),(831,.jn [.r 40 .B] false)] .n @Tryz.func174
def Va(n:Nat):ah Tryz.prog TE (afF n):=MKS n [(3,.jn [.r 2 .B] false)] .n @Tryz.func127
def adK(n:Nat):ah Tryz.prog TE (avg n):=MKS n [(26,.lp [.r 5 .I] 0 [])] .n @Tryz.func103
def acN(n:Nat):ah Tryz.prog TE (aby n):=MKS n [] (.c (adK n) .n) @Tryz.func128
def Ph(n:Nat):ah Tryz.prog TE (akJ n):=MKS n [(3,.jn [.r 2 .B] false)] .n @Tryz.func129
def wL(n:Nat):ah Tryz.prog TE (Tn n):=MKS n [(6,.jn [.r 21 .B] false),(58,.lp [.r 3 .I] 0 []),(932,.jn [.r 45 .B] false)] (.c (Va n) (.c (acN n) (.c (Ph n) .n))) @Tryz.func99
def U9(n:Nat):ah Tryz.prog TE (Vz n):=MKS n [(3,.jn [.r 2 .B] false)] (.c (wL n) .n) @Tryz.func176
def akn(n:Nat):ah Tryz.prog TE (ajg n):=MKS n [(3,.jn [.r 2 .B] false)] (.c (wL n) (.c (U9 n) .n)) @Tryz.func100
def VD(n:Nat):ah Tryz.prog TE (afG n):=MKS n [(3,.jn [.r 2 .B] false)] .n @Tryz.func62
def akj:∀n,ah Tryz.prog TE (aiu n)|0=>jR (fn:=Tryz.f119) Cs λ_=>rfl|n+1=>MKS n [(14,.jn [.r 25 .B] false),(31,.jn [.r 7 .I] true),(126,.jn [.r 61 .B] false),(250,.jn [.r 28 .B] false),(1018,.lp [.r 2 .I,.r 8 .I] 1 [.r 2 .I])] (.c (wL n) (.c (akj n) .n)) @Tryz.func119
def Ey(n:Nat):ah Tryz.prog TE (V9 n):=MKS n [] (.c (akj n) .n) @Tryz.func57
def ao2(n:Nat):ah Tryz.prog TE (ZY n):=MKS n [(3,.jn [.r 2 .B] false)] .n @Tryz.func175
def ayQ(n:Nat):ah Tryz.prog TE (anL n):=MKS n [(14,.jn [.r 29 .B] false),(15,.jn [] true),(62,.jn [.r 72 .B] false),(506,.jn [.r 2 .B] false)] (.c (azx n) (.c (akn n) (.c (VD n) (.c (wL n) (.c (Ey n) (.c (ao2 n) .n)))))) @Tryz.func98
def ajt:∀n,ah Tryz.prog TE (ahY n)|0=>jR (fn:=Tryz.f49) Cs λ_=>rfl|n+1=>MKS n [(14,.jn [.r 20 .B] false),(122,.lp [.r 2 .I,.r 7 .I] 0 [.r 2 .I])] (.c (ayQ n) (.c (ajt n) .n)) @Tryz.func49
def Ad(n:Nat):ah Tryz.prog TE (X5 n):=MKS n [] (.c (ajt n) .n) @Tryz.func22
def aoc:∀n,ah Tryz.prog TE (anP n)|0=>jR (fn:=Tryz.f27) Cs λ_=>rfl|n+1=>MKS n [(58,.lp [.r 3 .I,.r 4 .I] 0 [.r 3 .I]),(1865,.jn [.r 5 .I] false),(3730,.jn [.r 25 .B] false)] (.c (aoc n) (.c (VD n) .n)) @Tryz.func27
def D6(n:Nat):ah Tryz.prog TE (aif n):=MKS n [(3,.jn [.r 2 .B] false)] (.c (Ad n) (.c (aoc n) .n)) @Tryz.func10
def ZG(n:Nat):ah Tryz.prog TE (aay n):=MKS n [(3,.jn [.r 2 .B] false)] .n @Tryz.func184
def akT(n:Nat):ah Tryz.prog TE (Xq n):=MKS n [(26,.jn [.r 4 .B] false)] .n @Tryz.func185
def asf(n:Nat):ah Tryz.prog TE (ac8 n):=MKS n [(3,.jn [.r 2 .B] false)] .n @Tryz.func268
def apg(n:Nat):ah Tryz.prog TE (aaC n):=MKS n [(3,.jn [.r 2 .B] false)] (.c (ZG n) (.c (asf n) .n)) @Tryz.func186
def tF(n:Nat):ah Tryz.prog TE (Pb n):=MKS n [(6,.jn [.r 20 .B] false),(58,.lp [.r 23 .I] 0 [])] (.c (ZG n) (.c (akT n) (.c (apg n) .n))) @Tryz.func107
def GJ(n:Nat):ah Tryz.prog TE (u7 n):=MKS n [(3,.jn [.r 4 .B] false)] .n @Tryz.func319
def FP(n:Nat):ah Tryz.prog TE (uq n):=MKS n [] (.c (GJ n) .n) @Tryz.func269
def Jf(n:Nat):ah Tryz.prog TE (Jz n):=MKS n [] (.c (FP n) .n) @Tryz.func187
def aex(n:Nat):ah Tryz.prog TE (OI n):=MKS n [] (.c (Jf n) (.c (tF n) .n)) @Tryz.func108
def I8(n:Nat):ah Tryz.prog TE (Jr n):=MKS n [(7,.jn [.r 4 .B] false)] .n @Tryz.func137
def gQ:∀n,ah Tryz.prog TE (vM n)/\ah Tryz.prog TE (sO n)/\ah Tryz.prog TE (vQ n)/\ah Tryz.prog TE (um n)|0=>⟨jR (fn:=Tryz.f320) Cs λ_=>rfl,jR (fn:=Tryz.f270) Cs λ_=>rfl,jR (fn:=Tryz.f191) Cs λ_=>rfl,jR (fn:=Tryz.f274) Cs λ_=>rfl⟩|n+1=>⟨MKS n [(26,.lp [.r 8 .I,.o 1 (.bx [(0,.lf (.n .i64))])] 0 [.o 1 (.bx [(0,.lf (.n .i64))])])] (.c (gQ n).2.2.2 .n) @Tryz.func320,
  MKS n [] (.c (gQ n).1 .n) @Tryz.func270,
  MKS n [(15,.jn [.r 9 .I] true),(62,.jn [.r 45 .B] false)] (.c (I8 n) (.c (tF n) (.c (gQ n).2.1 .n))) @Tryz.func191,
  MKS n [] (.c (gQ n).2.2.1 .n) @Tryz.func274⟩
def SH(n:Nat):ah Tryz.prog TE (vQ n):=(gQ n).2.2.1
def uP(n:Nat):ah Tryz.prog TE (Sn n):=MKS n [] (.c (SH n) .n) @Tryz.func113
def fJ:∀n,ah Tryz.prog TE (tY n)/\ah Tryz.prog TE (qo n)/\ah Tryz.prog TE (FH n)/\ah Tryz.prog TE (BL n)|0=>⟨jR (fn:=Tryz.f320) Cs λ_=>rfl,jR (fn:=Tryz.f270) Cs λ_=>rfl,jR (fn:=Tryz.f188) Cs λ_=>rfl,jR (fn:=Tryz.f271) Cs λ_=>rfl⟩|n+1=>⟨MKS n [(26,.lp [.r 8 .I] 0 [])] (.c (fJ n).2.2.2 .n) @Tryz.func320,
  MKS n [] (.c (fJ n).1 .n) @Tryz.func270,
  MKS n [(3,.jn [.r 4 .B] false)] (.c (fJ n).2.1 .n) @Tryz.func188,
  MKS n [] (.c (fJ n).2.2.1 .n) @Tryz.func271⟩
def aep(n:Nat):ah Tryz.prog TE (FH n):=(fJ n).2.2.1
def aa5(n:Nat):ah Tryz.prog TE (Ku n):=MKS n [(3,.jn [.r 2 .B] false)] (.c (uP n) (.c (aep n) .n)) @Tryz.func109
def Rk:∀n,ah Tryz.prog TE (RG n)|0=>jR (fn:=Tryz.f193) Cs λ_=>rfl|n+1=>MKS n [(3,.jn [.o 0 (.mp .b)] false),(30,.lp [.r 15 .I,.o 0 (.mp .b),.o 1 .dead] 0 [.o 0 (.mp .b),.o 1 .dead])] (.c (Rk n) .n) @Tryz.func193
def agJ(n:Nat):ah Tryz.prog TE (Rz n):=MKS n [] .n @Tryz.func195
def Fu(n:Nat):ah Tryz.prog TE (OM n):=MKS n [] (.c (uP n) (.c (Rk n) (.c (agJ n) (.c (Vn n) .n)))) @Tryz.func115
def VN(n:Nat):ah Tryz.prog TE (IW n):=MKS n [] .n @Tryz.func273
def Ov(n:Nat):ah Tryz.prog TE (AQ n):=MKS n [(26,.lp [.r 8 .I] 0 [])] (.c (VN n) .n) @Tryz.func196
def Kk(n:Nat):ah Tryz.prog TE (yh n):=MKS n [] (.c (Ov n) .n) @Tryz.func272
def aa3(n:Nat):ah Tryz.prog TE (Kz n):=MKS n [] (.c (Kk n) .n) @Tryz.func190
def aaY(n:Nat):ah Tryz.prog TE (KA n):=MKS n [] (.c (aa3 n) .n) @Tryz.func189
def PU(n:Nat):ah Tryz.prog TE (Cq n):=MKS n [(26,.lp [.r 8 .I] 0 [])] (.c (aaY n) .n) @Tryz.func192
def La(n:Nat):ah Tryz.prog TE (yR n):=MKS n [] (.c (PU n) .n) @Tryz.func114
def aeD(n:Nat):ah Tryz.prog TE (OH n):=MKS n [] (.c (Fu n) (.c (La n) .n)) @Tryz.func110
def aeu(n:Nat):ah Tryz.prog TE (OL n):=MKS n [(58,.lp [.w (.own .s),.r 3 (.own 1),.r 11 .I] 0 [.w (.own .s),.r 3 (.own 1)]),(122,.lp [.w (.own .s),.r 3 (.own 2),.r 27 .I,.o 0 .dead,.o 1 .dead] 2 [.w (.own .s),.r 3 (.own 2),.o 0 .dead,.o 1 .dead])] .n @Tryz.func112
def ae0(n:Nat):ah Tryz.prog TE (O9 n):=MKS n [(58,.lp [.r 9 .I,.o 0 (.mp .b)] 0 [.o 0 .dead]),(7474,.jn [.r 15 .B] false)] .n @Tryz.func111
def Fv(n:Nat):ah Tryz.prog TE (Pd n):=MKS n [(6,.jn [.r 18 .B] false),(58,.lp [.r 22 .I] 0 []),(122,.lp [.r 51 .I] 4 []),(7474,.jn [.r 35 .B] false),(7833,.jn [.r 71 .B] false),(29902,.lp [.r 39 .I,.o 1 .dead] 2 [.o 1 .dead])] (.c (tF n) (.c (aex n) (.c (aa5 n) (.c (aeD n) (.c (aeu n) (.c (ae0 n) .n)))))) @Tryz.func53
def UE(n:Nat):ah Tryz.prog TE (Td n):=MKS n [(58,.lp [.r 16 .I,.o 0 .dead] 0 [.o 0 .dead]),(3737,.jn [.r 48 .B] false)] .n @Tryz.func54
def al1(n:Nat):ah Tryz.prog TE (VZ n):=MKS n [] .n @Tryz.func197
def Kl(n:Nat):ah Tryz.prog TE (xV n):=MKS n [(26,.lp [.r 8 .I] 0 [])] (.c (al1 n) .n) @Tryz.func196
def acI(n:Nat):ah Tryz.prog TE (abS n):=MKS n [] (.c (Kl n) .n) @Tryz.func117
def ahS(n:Nat):ah Tryz.prog TE (Ua n):=MKS n [] .n @Tryz.func96
def aer(n:Nat):ah Tryz.prog TE (OT n):=MKS n [] (.c (ahS n) .n) @Tryz.func46
def arC(n:Nat):ah Tryz.prog TE (acD n):=MKS n [(58,.lp [.r 8 .I] 0 [])] .n @Tryz.func45
def mV:∀n,ah Tryz.prog TE (sJ n)/\ah Tryz.prog TE (KZ n)|0=>⟨jR (fn:=Tryz.f48) Cs λ_=>rfl,jR (fn:=Tryz.f19) Cs λ_=>rfl⟩|n+1=>⟨MKS n [(26,.lp [.r 13 .I] 0 [])] (.c (mV n).2 .n) @Tryz.func48,
  MKS n [] (.c (aer n) (.c (aeW n) (.c (arC n) (.c (mV n).1 .n)))) @Tryz.func19⟩
def qx(n:Nat):ah Tryz.prog TE (KZ n):=(mV n).2
def Mw:∀n,ah Tryz.prog TE (Zu n)/\ah Tryz.prog TE (Rl n)|0=>⟨jR (fn:=Tryz.f56) Cs λ_=>rfl,jR (fn:=Tryz.f118) Cs λ_=>rfl⟩|n+1=>⟨MKS n [(234,.jn [.r 8 .B] false),(942,.jn [.r 8 .B] false),(7549,.jn [.r 8 .B] false),(15102,.jn [.r 8 .B] false),(120828,.jn [.r 161 .B] false),(966634,.lp [.r 11 .I] 1 [])] (.c (acI n) (.c (Mw n).2 (.c (qx n) .n))) @Tryz.func56,
  MKS n [(26,.lp [.r 11 .I] 0 [])] (.c (Mw n).1 .n) @Tryz.func118⟩
def ajL(n:Nat):ah Tryz.prog TE (Zu n):=(Mw n).1
def abf(c:Carrier)(s:Int):Bool:=cond (decide (s<1)) true (cond (decide (8<s)) true (cond (decide (0<(c.elems.length:Int))) (s !=(c.elems.length:Int)) false))
def J4:A7->A2->Bool|c::a,s::b=>!(abf c s)&&J4 a b|_,_=>true
def uj(e:Env)(sz:A2):Bool:=!((sz.length:Int)!=(e.carriers.length:Int))&&J4 e.carriers sz
def Dk{e:Env}{sz:A2}(h:uj e sz=true):sz.length=e.carriers.length:=by unfold uj at h;simp only[qAa,qAV,bne_eq_false_iff_eq]at h;omega
def Fp:Af->Bool|a::b::r=>!(decide (0<=bQ a b))&&Fp (b::r)|_=>true
def acs(v:Val):Bool:=v.kind==1&&(v.name==[]&&((v.kids.length:Int)==0&&(decide ((-1000000000)<=v.n)&&decide (v.n<=1000000000))))
def abw(v:Val):Bool:=v.kind==2&&(v.name==[]&&((v.kids.length:Int)==0&&(v.n==0 ||v.n==1)))
def He(e:Env)(sz:A2)(nm:Str):Int:=(idx sz (dR (λc=>c.name==nm) 0 e.carriers)).getD 0
def OD(e:Env)(sz:A2)(nm:Str)(v:Val):Bool:=v.kind==3&&(v.name==nm&&((v.kids.length:Int)==0&&(decide (0<=v.n)&&decide (v.n<He e sz nm))))
mutual
def hasB(env:Env)(sz:A2):Ty→Val→Bool
 | .mk k nm ks,v=>cond (k==1) (acs v) (cond (k==2) (abw v) (cond (k==3) (OD env sz nm v) (cond (k==4) (v.kind==4&&(v.n==0&&(v.name==[]&&((v.kids.length:Int)==2&&Zk env sz ks v.kids))))
   ((v.kind==5&&(v.n==0&&(v.name==[]&&!(decide (256<(v.kids.length:Int))))))&&(awR env sz ks v.kids&&Fp v.kids)))))
def Zk(env:Env)(sz:A2):A3→Af→Bool
 |[],_=>true
 |t::ts,vs=>match vs with
  |[]=>true
  |v::vs=>hasB env sz t v&&Zk env sz ts vs
def awR(env:Env)(sz:A2):A3→Af→Bool
 |[],_=>true
 |t::_,vs=>vs.all fun v=>hasB env sz t v
end
def Qv(c:Int):Bool:=(decide (97<=c)&&decide (c<=122)) ||(decide (65<=c)&&decide (c<=90))
def acU(c:Int):Bool:=decide (48<=c)&&decide (c<=57)
def Ca(c:Int):Bool:=Qv c ||(acU c ||c==95)
def XJ(n:Nat)(c:Int):FT n c=some (Qv c):=by unfold FT Qv;cases decide (97<=c)<;>cases decide (c<=122)<;>cases decide (65<=c)<;>rfl
def acz(n:Nat)(c:Int):wD n c=some (Qv c):=by unfold wD Qv;cases decide (97<=c)<;>cases decide (c<=122)<;>cases decide (65<=c)<;>rfl
def aoO(n:Nat)(c:Int):Pf n c=some (acU c):=by unfold Pf acU;cases decide (48<=c)<;>rfl
def atD(n:Nat)(c:Int):CY n c=some (acU c):=by unfold CY acU;cases decide (48<=c)<;>rfl
def amF(n:Nat)(c:Int):MR n c=some (Ca c):=by unfold MR Ca;rw[XJ,aoO];cases Qv c<;>cases acU c<;>rfl
def asK(p:Str)(l:Bk):Ev (λn=>Mi n p l) (l.any λx=>x==p):=by
 unfold Mi;have h:=sN l (λn k i=>aq4 n p l k i) (λ_ x=>some (x==p)) (λx=>x==p) true (λn k i=>rfl) (λx _=>Ev.ret _);refine Ev.bind h ?_;cases l.any λx=>x==p
 ·exact Cu
 exact Cu
def kws:Bk:=[[116,114,117,101],[102,97,108,115,101],[110,111,116],[111,114],[102,111,114,97,108,108],[101,120,105,115,116,115],[105,110],[110,111,116,105,110],[115,117,98],[109,111,100],[102,117,110],[99,97,114,100],[109,105,110],[109,97,120],[100,111,109],[114,97,110],[80,79,87],[105,110,116],[98,111,111,108],[115,101,116],[112,97,105,114]]
def kwB(s:Str):Bool:=kws.any λx=>x==s
def apa(s:Str):Ev (λn=>Ja n s) (kwB s):=by unfold Ja;exact Ev.bind (asK s _) Cu
def chainB(a b:Bool):cond a (some a) (some b)=some (a ||b):=by cases a<;>rfl
def aj4(n:Nat)(s:Str):JH n s=some (kwB s):=by
 unfold JH;simp only[chainB,qAb];have h:∀b:Bool,cond b (some true) (some false)=some b:=λb=>by cases b<;>rfl
 rw[h];simp only[kwB,kws,qCA,List.any_nil,qDc];simp only[BEq.comm (a:=s)]
def ident(s:Str):Bool:=match s with|[]=>false|c::a=>decide (a.length<16)&&(Qv (c.toNat:Int)&&(!(kwB (c::a))&&a.all λc=>Ca (c.toNat:Int)))
def qm{α:Type}(p:α->Bool)(l:List α):l.any (λx=>!(p x))=!(l.all p):=by induction l with|nil=>rfl|cons x l i=>simp[i]
def rM(s:Str):Ev (λn=>gX n s) (ident s):=by
 unfold gX;cases s with|nil=>exact Ev.of λn=>rfl|cons c a=>
  have h:Ev (λn=>CJ n (c::a) n 0) (cond ((c::a).any λc=>!(Ca (c.toNat:Int))) (.rt false) (.nx ())):=by refine sN (c::a) (λn k i=>CJ n (c::a) k i) (λ_ x=>some (!(Ca (x.toNat:Int)))) (λx=>!(Ca (x.toNat:Int))) false (λn k i=>?_) (λx _=>Ev.ret _);show cond _ _ _=_;congr 1;rw[QJ];cases idx (c::a) i with|none=>rfl|some x=>simp only[qAx,qAb,amF];rfl
  have b:oL (c::a) 0=some (c.toNat:Int):=by rw[QJ];rfl
  have e:((c::a)==([]:Str))=false:=by simp
  simp only[e,cond_false,b,qAb,XJ,aj4];by_cases f:a.length<16;·have d:decide (16<((c::a).length:Int))=false:=decide_eq_false Cp;simp only[d,cond_false,ident,decide_eq_true f,qAu];cases l:Qv (c.toNat:Int)with|false=>exact Cu|true=>
    cases g:kwB (c::a)with|true=>exact Cu|false=>
     simp only[qAv,cond_false,qAb,qAu,qBb];refine Ev.bind h ?_;rw[qm];simp only[qBC,Ca,l,qCj,qAu];cases a.all λc=>Qv (c.toNat:Int) ||(acU (c.toNat:Int) ||(c.toNat:Int)==95)
     ·exact Cu
     exact Cu
  have d:decide (16<((c::a).length:Int))=true:=decide_eq_true Cp;simp only[d,cond_true,qAb,ident,decide_eq_false f,qBk];exact Cu
def qw(s:Str):Ev (λn=>jk n s) (ident s):=by
 unfold jk;cases s with|nil=>exact Ev.of λn=>rfl|cons c b=>
  have h:Ev (λn=>G7 n (c::b) n 1) (cond (b.any λc=>!(Ca (c.toNat:Int))) (.rt false) (.nx ())):=by refine akz (c::b) (λn k i=>G7 n (c::b) k i) (λ_ x=>some (!(Ca (x.toNat:Int)))) (λx=>!(Ca (x.toNat:Int))) false (λn k i=>?_) (λx _=>Ev.ret _) [c] b rfl;show cond _ _ _=_;congr 1;rw[QJ];cases idx (c::b) i with|none=>rfl|some x=>simp only[qAx,qAb,acz,atD,Ca];cases Qv (x.toNat:Int)<;>cases acU (x.toNat:Int)<;>rfl
  have d:oL (c::b) 0=some (c.toNat:Int):=by rw[QJ];rfl
  have e:decide (((c::b).length:Int)<1)=false:=decide_eq_false Cp;simp only[e,cond_false,d,qAb,acz];by_cases l:b.length<16;·have f:decide (16<((c::b).length:Int))=false:=decide_eq_false Cp;simp only[f,cond_false,ident,decide_eq_true l,qAu];cases t:Qv (c.toNat:Int)with|false=>exact Cu|true=>
    simp only[qAv,cond_false,qAu];refine Ev.bind (a:=kwB (c::b)) (Ev.bind (apa _) Cu) ?_;cases g:kwB (c::b)with|true=>exact Cu|false=>
     simp only[cond_false,qAu,qBb];refine Ev.bind h ?_;rw[qm];cases b.all λc=>Ca (c.toNat:Int)
     ·exact Cu
     exact Cu
  have f:decide (16<((c::b).length:Int))=true:=decide_eq_true Cp;simp only[f,cond_true,qAb,ident,decide_eq_false l,qBk];exact Cu
def ael(s:Str):Str:=if s.getLast? =some 39 then s.dropLast else s
def ahI{α:Type}(s:List α)(k:Nat)(h:k<=s.length):kQ s 0 (k:Int)=some (s.take k):=by unfold kQ;rw[if_pos Cl];simp
def aol(n:Nat)(s:Str)(hs:s.length<=9223372036854775807):strings_TrimSuffix n s [39]=some (ael s):=by
 unfold strings_TrimSuffix oh o8;rcases qDy s with rfl|⟨t,c,rfl⟩
 ·rfl
 have l:((t++[c]).length:Int) - (([39]:Str).length:Int)=(t.length:Int):=by simp
 have d:decide ((([39]:Str).length:Int)<=((t++[c]).length:Int))=true:=decide_eq_true Cp;simp only[qDz]at hs|-;rw[l,d,wrap64 Cl (by simp at hs;omega)];have a:kQ (t++[c]) (t.length:Int) ((t++[c]).length:Int)=some [c]:=by unfold kQ;rw[if_pos Cp];simp
 have b:kQ (t++[c]) 0 (t.length:Int)=some t:=by rw[ahI _ _ cn];simp
 simp only[cond_true,a,b,qAb];unfold ael;rw[qDG,qDH];by_cases h:c=39;·subst h;simp
 have:(([c]:Str)==[39])=false:=by simp[h]
 rw[this,if_neg (by simpa using h)];rfl
def named(s:Str):Bool:=ident (ael s)
def afh(s:Str)(hs:s.length<=9223372036854775807):Ev (λn=>wB n s) (named s):=by unfold wB;simp only[aol _ s hs,qAb];exact Ev.bind (rM _) Cu
def axh{s:Str}(h:ident s=true):∀c∈s,Ca (c.toNat:Int)=true:=by
 cases s with|nil=>cases h|cons c a=>
  simp only[ident,qAa,decide_eq_true_eq,qAP]at h;intro x hx;rcases qAh.1 hx with rfl|hx
  ·simp[Ca,h.2.1]
  exact h.2.2.2 x hx
def afa(s:Str):Ev (λn=>KN n s) (named s):=by
 unfold KN;have p:Ev (λn=>Nk n s) (decide (s.getLast? =some 39)&&ident s.dropLast):=by
  unfold Nk;rcases qDy s with rfl|⟨t,c,rfl⟩
  ·exact Cu
  simp only[qDz,qDG,qDH];cases t with
  |nil=>
   have b:decide (1<(([]++[c]:Str).length:Int))=false:=rfl;simp only[b,cond_false,qAb];have:ident ([]:Str)=false:=rfl;rw[this,qBP];exact Cu
  |cons d t=>
   have b:decide (1<((d::t++[c]:Str).length:Int))=true:=decide_eq_true Cp;have l:(((d::t++[c]:Str).length:Int) - 1)=((d::t).length:Int):=by simp
   have g:oL (d::t++[c]) (((d::t++[c]:Str).length:Int) - 1)=some (c.toNat:Int):=by
    rw[l,QJ,show(d::t++[c]:Str)=(d::t)++c::[]from rfl,gJ];rfl
   have i:kQ (d::t++[c]) 0 (((d::t++[c]:Str).length:Int) - 1)=some (d::t):=by rw[l,ahI _ _ cn];simp
   simp only[b,cond_true,g,i,qAb];by_cases f:c=39
   ·subst f;simp only[show((((39:UInt8).toNat:Nat):Int)==39)=true from rfl,cond_true,decide_true,qAu];exact Ev.bind (Ev.bind (qw _) Cu) Cu
   have e:(((c.toNat:Nat):Int)==39)=false:=by
    apply beq_false_of_ne;intro h;apply f;have:c.toNat=39:=by omega
    exact UInt8.toNat_inj.1 this
   rw[e];have j:decide (some c=some (39:UInt8))=false:=decide_eq_false (by simpa using f);simp only[cond_false,qAb,j,qBk];exact Cu
 refine Ev.bind (a:=named s) ?_ Cu;refine Ev.bind (qw s) ?_;unfold named ael;by_cases q:s.getLast? =some 39
 ·have k:ident s=false:=by
   cases h:ident s with
   |false=>rfl
   |true=>
    have:=axh h 39 (qDI q);cases this
  rw[k,if_pos q];rw[decide_eq_true q,qAu]at p;exact Ev.bind p Cu
 rw[if_neg q];rw[decide_eq_false q,qBk]at p;cases ident s
 ·exact Ev.bind p Cu
 exact Cu
theorem Ty.ind{P:Ty->Prop}(h:∀k n s,(∀t∈s,P t)->P (.mk k n s))(t:Ty):P t:=by match t with| .mk k n s=>exact h k n s λu _=>Ty.ind h u
decreasing_by
 rename_i a;have:=qCH a
 grind
def fT(k:Int)(nm:Str)(len:Nat)(d:Int):Bool:=
 !(k==2&&decide (1<d))&&((((k==1 ||(k==2 ||k==3))&&len==0) ||((k==4&&len==2) ||(k==5&&len==1)))&&cond (k==3) (ident nm) (nm==[]))
mutual
def pf:Ty→Int→Int→Bool×Int
 | .mk k nm ks,d,c=>cond ((decide (c+1≤16)&&decide (d≤6))&&fT k nm ks.length d) (kK ks (d+1) (c+1)) (false,c+1)
def kK:A3→Int→Int→Bool×Int
 |[],_,c=>(true,c)
 |t::ts,d,c=>cond (pf t d c).1 (kK ts d (pf t d c).2) (false,(pf t d c).2)
end
mutual
theorem Gd:∀(t:Ty) (d c:Int),(pf t d c).1=true→c<(pf t d c).2∧(pf t d c).2≤16
 | .mk k nm ks,d,c,h=>by
  simp only[pf]at h⊢;cases hb:((decide (c+1≤16)&&decide (d≤6))&&fT k nm ks.length d)with
  |false=>rw[hb]at h;cases h
  |true=>
   rw[hb]at h;simp only[cond_true]at h⊢;simp only[qAa,decide_eq_true_eq]at hb;have:=abd ks (d+1) (c+1) h;omega
theorem abd:∀(ts:A3) (d c:Int),(kK ts d c).1=true→c≤(kK ts d c).2∧(c≤16→(kK ts d c).2≤16)
 |[],_,c,_=>by simp[kK]
 |t::ts,d,c,h=>by
  simp only[kK]at h⊢;cases hb:(pf t d c).1 with
  |false=>rw[hb]at h;cases h
  |true=>
   rw[hb]at h;simp only[cond_true]at h⊢;have h1:=Gd t d c hb;have h2:=abd ts d _ h;exact⟨by omega,fun _=>h2.2 h1.2⟩
end
def aA5(n:Nat)(c d:Int)(h0:0<=c)(h:c<=16):lS n c 16 6 d=some (decide (c+1<=16)&&decide (d<=6),c+1):=by
 unfold lS;rw[wrap64 Cl Cl]
 grind
def aHR(t:Ty):Prop:=∀d c:Int,1<=d->d<=7->0<=c->c<=16->Ev (λn=>iW n c 16 6 t d (decide (1<d))) (pf t d c)
def avM(d:Int):∀(a:A3) (i c:Int),0<=i->(∃j,0<=j/\(kK a d c).1=false/\lu (τ:=Int) (λi x s=>cond (!(pf x d s).1) (.rt (i,(pf x d s).2)) (.nx (pf x d s).2)) (λs=>s) i a c=.rt (j,(kK a d c).2))∨((kK a d c).1=true/\lu (ρ:=Int×Int) (λi x s=>cond (!(pf x d s).1) (.rt (i,(pf x d s).2)) (.nx (pf x d s).2)) (λs=>s) i a c=.nx (kK a d c).2)
 |[],i,c,_=>.inr ⟨rfl,rfl⟩
 |t::a,i,c,h=>by
  simp only[kK,lu];cases b:(pf t d c).1 with
  |false=>exact .inl ⟨i,h,rfl,rfl⟩
  |true=>exact avM d a (i+1) _ Cl
def ayu(f:A3)(h:∀t∈f,aHR t)(d c:Int)(C:1<=d)(u:d<=6)(h0:0<=c)(v:c<=16):Ev (λn=>fD n f c 16 6 d) (!(kK f (d+1) c).1,(kK f (d+1) c).2):=by
 refine Ev.succ ?_;show Ev (λn=>pR n _ _ _ _ f c 16 6 d) _;unfold pR;have l:=Qk f (λn k i s=>DC n (lG n) (fD n) (iW n) (fQ n) f 16 6 d k (i,s))
  (λn i x s=>(fQ n x s 16 6 d).bind λo=>cond o.1 (some (.rt (i,o.2))) (some (.nx o.2))) (λi x s=>cond (!(pf x (d+1) s).1) (.rt (i,(pf x (d+1) s).2)) (.nx (pf x (d+1) s).2)) (λs=>s) (λ_ _ s=>0<=s/\s<=16)
  (λn k i s=>by show cond _ _ _=_;congr 1;congr 1;funext x;dsimp only;cases fQ n x s 16 6 d with|none=>rfl|some b=>let⟨b,e⟩:=b;cases b<;>rfl)
  (λi x w s y q=>⟨by
   have g:Ev (λn=>fQ n x s 16 6 d) (!(pf x (d+1) s).1,(pf x (d+1) s).2):=by refine Ev.succ ?_;show Ev (λn=>qE n _ _ _ _ x s 16 6 d) _;unfold qE;have:=h x y (d+1) s Cl Cl q.1 q.2;rw[decide_eq_true (show 1<d+1 by omega)]at this;rw[wrap64 Cl Cl];exact Ev.bind this Cu
   refine Ev.bind g ?_;cases(pf x (d+1) s).1;·exact Cu
   exact Cu,λD m=>by cases p:(pf x (d+1) s).1 with|false=>rw[p]at m;cases m|true=>rw[p]at m;simp only[qAv,cond_false,LR.nx.injEq]at m;have:=Gd x (d+1) s p;omega⟩) (s0:=c) ⟨h0,v⟩
 rcases avM (d+1) f 0 c (qBD _)with⟨j,z,A,r⟩|⟨B,r⟩
 ·rw[r]at l;refine Ev.bind (a:=(j,(kK f (d+1) c).2)) (Ev.succ ?_) ?_
  ·show Ev (λn=>ku n _ _ _ _ f c 16 6 d) _;unfold ku;exact Ev.bind l Cu
  rw[A];simp only[decide_eq_true z];exact Cu
 rw[r]at l;refine Ev.bind (a:=(-1,(kK f (d+1) c).2)) (Ev.succ ?_) ?_;·show Ev (λn=>ku n _ _ _ _ f c 16 6 d) _;unfold ku;exact Ev.bind l Cu
 rw[B];exact Cu
def aqw(len:Nat)(m:Nat):(((len:Int)!=(m:Int)))=!(len==m):=by grind
def fits:∀t:Ty,aHR t:=Ty.ind λk nm s q d c r u v w=>by
 refine Ev.succ ?_;show Ev (λn=>sS n _ _ _ _ c 16 6 (.mk k nm s) d (decide (1<d))) _;unfold sS;simp only[aA5 _ c d v w,qAb,pf,Ty.kind,Ty.name,Ty.kids];cases b:(decide (c+1<=16)&&decide (d<=6))with
 |false=>exact Cu
 |true=>
  simp only[qAa,decide_eq_true_eq]at b;have y:=ayu s q d (c+1) r b.2 Cl b.1;simp only[qAv,cond_false,qAu]
  -- the end: the number of kids, the name, the kids
  have h:∀m:Nat,Ev (λn=>((cond ((s.length:Int)!=(m:Int)) (some true) (cond (k !=3) (some (!(nm==([]:Str)))) (some false))):Ax).bind λ(z:Bool)=>cond z (some (false,c+1)) ((fD n s (c+1) 16 6 d).bind λ(x:Bool×Int)=>some ((!x.1),x.2)))
    (cond ((s.length==m)&&cond (k==3) true (nm==[])) (kK s (d+1) (c+1)) (false,c+1)):=λm=>by
   rw[aqw];cases s.length==m with
   |false=>exact Cu
   |true=>
    simp only[qAv,cond_false,qAu,bne];have i:Ev (λn=>(fD n s (c+1) 16 6 d).bind λ(x:Bool×Int)=>some ((!x.1),x.2)) (kK s (d+1) (c+1)):=by
     refine Ev.bind y ?_;simp only[qCk];exact Cu
    cases k==3 with
    |true=>exact i
    |false=>
     simp only[qBb,cond_true,qAb,cond_false];cases nm==([]:Str)with
     |false=>exact Cu
     |true=>exact i
  by_cases e:k=1
  ·subst e;have:=h 0;simpa[fT]using this
  by_cases f:k=2
  ·subst f;cases o:decide (1<d)with
   |true=>
    have:fT 2 nm s.length d=false:=by simp[fT,o]
    simp only[this,cond_false];exact Ev.of λn=>by simp
   |false=>
    have:=h 0;simpa[fT,o]using this
  by_cases g:k=3
  ·subst g;simp only[show((3:Int)==1)=false from rfl,show((3:Int)==2)=false from rfl,show((3:Int)==3)=true from rfl,cond_false,cond_true];refine Ev.bind (a:=cond (ident nm) (.nx 0) (.rt (false,c+1))) (Ev.bind (rM nm) ?_) ?_
   ·cases ident nm
    ·exact Cu
    exact Cu
   cases p:ident nm with
   |false=>
    have:fT 3 nm s.length d=false:=by simp[fT,p]
    rw[this];exact Cu
   |true=>
    have:=h 0;simpa[fT,p]using this
  by_cases j:k=4
  ·subst j;have:=h 2;simpa[fT]using this
  by_cases l:k=5
  ·subst l;have:=h 1;simpa[fT]using this
  have:fT k nm s.length d=false:=by simp[fT,e,f,g,j,l]
  rw[this];refine Ev.of λn=>?_;have A:=beq_false_of_ne e;have B:=beq_false_of_ne f;have C:=beq_false_of_ne g;have D:=beq_false_of_ne j;have E:=beq_false_of_ne l;simp only[A,B,C,D,E,cond_false,qAb,LR.el]
def bA(t:Ty):Bool:=(pf t 1 0).1
def tK(t:Ty):Ev (λn=>ql n t) (bA t):=by have:=fits t 1 0 Cl Cl Cl Cl;exact Ev.bind this Cu
def pt(t:Ty)(d c:Int):Int:=cond (pf t d c).1 (pf t d c).2 (-1)
def aGZ(t:Ty):Prop:=∀d c:Int,1<=d->d<=7->0<=c->c<=16->Ev (λn=>zR n t d c) (pt t d c)
def avX(d:Int):∀(a:A3) (c:Int),0<=c->fG (τ:=Int) (λx s=>cond (decide (pt x d s<0)) (.rt (-1)) (.nx (pt x d s))) (λs=>s) a c=cond (kK a d c).1 (.nx (kK a d c).2) (.rt (-1))
 |[],c,_=>rfl
 |t::a,c,g=>by
  simp only[kK,fG];by_cases b:(pf t d c).1=true
  ·have i:=Gd t d c b;have f:pt t d c=(pf t d c).2:=by simp only[pt,b,cond_true]
   have e:decide ((pf t d c).2<0)=false:=decide_eq_false Cl;simp only[f,e,b,cond_true,cond_false];exact avX d a (pf t d c).2 Cl
  have h:(pf t d c).1=false:=by simpa using b
  have f:pt t d c= -1:=by simp only[pt,h,cond_false]
  have e:decide (pt t d c<0)=true:=decide_eq_true Cl;simp only[e,h,cond_true,cond_false]
def typed:∀t:Ty,aGZ t:=Ty.ind λk nm e H d c S I T U=>by
 refine Ev.succ ?_;show Ev (λn=>Oq n _ (.mk k nm e) d c) _;unfold Oq;simp only[pt,pf,Ty.kind,Ty.name,Ty.kids];rw[wrap64 Cl Cl];by_cases j:d<=6
 case neg=>
  rw[decide_eq_true (show 6<d by omega),decide_eq_false j];simp only[qBP,qBk,cond_false];exact Cu
 by_cases u:c+1<=16
 case neg=>
  rw[decide_eq_false (show ¬6<d by omega),decide_eq_true (show 16<c+1 by omega),decide_eq_false u];simp only[qBk,cond_false,cond_true];exact Cu
 rw[decide_eq_false (show ¬6<d by omega),decide_eq_false (show ¬16<c+1 by omega),decide_eq_true j,decide_eq_true u];simp only[cond_false,qAu];have l:=V3 e (λn D i s=>MC n (zR n) (.mk k nm e) d D (s,i)) (λn x s=>(zR n x (IntKind.wrap .i64 (d+1)) s).bind λE=>cond (decide (E<0)) (some (.rt (-1))) (some (.nx E)))
  (λx s=>cond (decide (pt x (d+1) s<0)) (.rt (-1)) (.nx (pt x (d+1) s))) (λs=>s) (λ_ s=>0<=s/\s<=16)
  (λn D i s=>by
   show cond _ _ _=_;congr 1;show(idx e i).bind _=_;congr 1;funext x;dsimp only;cases zR n x (IntKind.wrap .i64 (d+1)) s with
   |none=>rfl
   |some b=>simp only[qAb];cases decide (b<0)<;>rfl)
  (λx J s K F=>⟨by
   rw[wrap64 Cl Cl];refine Ev.bind (H x K (d+1) s Cl Cl F.1 F.2) ?_;cases decide (pt x (d+1) s<0)
   ·exact Cu
   exact Cu,λV o=>by
   cases v:decide (pt x (d+1) s<0)with
   |true=>rw[v]at o;cases o
   |false=>
    rw[v]at o;simp only[cond_false,LR.nx.injEq]at o;have g:¬pt x (d+1) s<0:=of_decide_eq_false v;subst o;unfold pt at g|-;cases q:(pf x (d+1) s).1 with
    |false=>rw[q]at g;simp at g
    |true=>have:=Gd x (d+1) s q;simp only[cond_true];omega⟩) (s0:=c+1) ⟨by omega,u⟩
 rw[avX _ _ _ Cl]at l;have f:Ev (λn=>(MC n (zR n) (.mk k nm e) d n (c+1,0)).bind (LR.el (λ(w:Int)=>some w) (λr=>some r))) (cond (kK e (d+1) (c+1)).1 (kK e (d+1) (c+1)).2 (-1)):=by
  refine Ev.bind l ?_;cases(kK e (d+1) (c+1)).1
  ·exact Cu
  exact Cu
 have h:∀m:Nat,Ev (λn=>((cond ((e.length:Int)!=(m:Int)) (some true) (cond (k==3) ((jk n nm).bind λ(L:Bool)=>cond (!L) (some true) (cond (k !=3) (some (!(nm==([]:Str)))) (some false))) (cond (k !=3) (some (!(nm==([]:Str)))) (some false)))):Ax).bind λ(M:Bool)=>cond M (some (-1)) ((MC n (zR n) (.mk k nm e) d n (c+1,0)).bind (LR.el (λ(w:Int)=>some w) (λr=>some r))))
   (cond ((e.length==m)&&cond (k==3) (ident nm) (nm==[])) (cond (kK e (d+1) (c+1)).1 (kK e (d+1) (c+1)).2 (-1)) (-1)):=λm=>by
  rw[aqw];cases e.length==m with
  |false=>exact Cu
  |true=>
   simp only[qAv,cond_false,qAu,bne];cases k==3 with
   |true=>
    simp only[cond_true,qAv,cond_false];refine Ev.bind (a:=!(ident nm)) (Ev.bind (qw nm) ?_) ?_
    ·cases ident nm
     ·exact Cu
     exact Cu
    cases ident nm
    ·exact Cu
    exact f
   |false=>
    simp only[cond_false,qBb,cond_true,qAb];cases nm==([]:Str)with
    |false=>exact Cu
    |true=>exact f
 have p:∀b:Bool,(cond (cond b (kK e (d+1) (c+1)) (false,c+1)).1 (cond b (kK e (d+1) (c+1)) (false,c+1)).2 (-1):Int)=cond b (cond (kK e (d+1) (c+1)).1 (kK e (d+1) (c+1)).2 (-1)) (-1):=λb=>by cases b<;>rfl
 rw[p];by_cases y:k=1
 ·subst y;have:=h 0;simpa[fT]using this
 by_cases z:k=2
 ·subst z;cases G:decide (1<d)with
  |true=>
   have:fT 2 nm e.length d=false:=by simp[fT,G]
   rw[this];exact Ev.of λn=>by simp
  |false=>
   have:=h 0;simpa[fT,G]using this
 by_cases A:k=3
 ·subst A;have:=h 0;simpa[fT]using this
 by_cases B:k=4
 ·subst B;have:=h 2;simpa[fT]using this
 by_cases C:k=5
 ·subst C;have:=h 1;simpa[fT]using this
 have:fT k nm e.length d=false:=by simp[fT,y,z,A,B,C]
 rw[this];refine Ev.of λn=>?_;have N:=beq_false_of_ne y;have O:=beq_false_of_ne z;have P:=beq_false_of_ne A;have Q:=beq_false_of_ne B;have R:=beq_false_of_ne C;simp only[N,O,P,Q,R,cond_false,qAb,LR.el]
def Cw(t:Ty):Ev (λn=>uS n t) (bA t):=by refine Ev.bind (typed t 1 0 Cl Cl Cl Cl) ?_;unfold pt bA;cases h:(pf t 1 0).1 with|false=>exact Cu|true=>have:=Gd t 1 0 h;simp only[cond_true];rw[decide_eq_true Cl];exact Cu
def adk{α σ τ ρ:Type}(f:α->σ->σ)(i:σ->τ):∀(l:List α) (s:σ),fG (ρ:=ρ) (λx s=>.nx (f x s)) i l s=.nx (i (l.foldl (λs x=>f x s) s))|[],_=>rfl|x::a,s=>adk f i a (f x s)
def oZ{α σ τ ρ:Type}(l:List α)(L:Nat->Nat->Int->σ->Option (LR τ ρ))(t:Nat->α->σ->Option σ)(f:α->σ->σ)(a:σ->τ)(I:List α->σ->Prop)
  (c:∀n k i s,L n (k+1) i s=cond (decide (i<(l.length:Int))) ((idx l i).bind λx=>(t n x s).bind λb=>L n k (i+1) b) (some (.nx (a s))))
  (d:∀x u s,x∈l->I (x::u) s->Ev (λn=>t n x s) (f x s)/\I u (f x s)) {s0:σ} (h0:I l s0):Ev (λn=>L n n 0 s0) (.nx (a (l.foldl (λs x=>f x s) s0))):=by
 rw[<-adk f a];refine V3 l L (λn x s=>(t n x s).bind λb=>some (.nx b)) (λx s=>.nx (f x s)) a I (λn k i s=>?_) (λx u s e g=>?_) h0
 ·rw[c];congr 1;congr 1;funext x
  grind
 let⟨j,m⟩:=d x u s e g;exact⟨Ev.bind j Cu,λb h=>by cases h;exact m⟩
def an6{α ρ:Type}(l:List α)(L:Nat->Nat->Int->Option (LR Unit ρ))(t:Nat->α->Option (LR Unit ρ))(p:α->Bool)(r:ρ)
  (h:∀n k i,L n (k+1) i=cond (decide (i<(l.length:Int))) ((idx l i).bind λx=>(t n x).bind (LR.el (λ_=>L n k (i+1)) (λr=>some (.rt r)))) (some (.nx ())))
  (a:∀x∈l,Ev (λn=>t n x) (cond (p x) (.rt r) (.nx ()))):Ev (λn=>L n n 0) (cond (l.any p) (.rt r) (.nx ())):=by
 have:=V3 l (λn k i (_:Unit)=>L n k i) (λn x _=>t n x) (λx _=>cond (p x) (.rt r) (.nx ())) (λ_=>()) (λ_ _=>True)
  (λn k i s=>by rw[h]) (λx u s b _=>⟨a x b,λ_ _=>trivial⟩) (s0:=()) trivial
 rw[Tg]at this;exact this
def qh{α:Type}{b:Nat}{l ys:List α}(h:l.length+ys.length<=1000000)(a:b<=1000):app b l ys=some (l++ys):=by
 unfold app;have:=qCV h a
 grind
def Pn{α:Type}:∀(l s:List α),l.foldl (λs x=>s++[x]) s=s++l|[],s=>by simp|x::l,s=>by simp[Pn l]
theorem Oe{α:Type}(k:Str):dn ([]:List (Str×α)) k=none:=rfl
def mg{α:Type}(p:Str×α)(m:List (Str×α))(k:Str):dn (p::m) k=if p.1==k then some p.2 else dn m k:=by
 unfold dn
 grind
def ab2{α:Type}(m:List (Str×α))(k:Str)(v:α)(a:Str):dn (lJ m k v) a=if k==a then some v else dn m a:=by
 induction m with
 |nil=>rw[lJ,mg]
 |cons p m i=>
  simp only[lJ];by_cases h:(p.1==k)=true
  ·have e:p.1=k:=by simpa using h
   rw[if_pos h,mg,mg,e]
   grind
  rw[if_neg h,mg,i,mg]
  grind
def Dh{α:Type}(m:List (Str×α))(k:Str)(v:α):(lJ m k v).length<=m.length+1:=by
 induction m with|nil=>simp[lJ]|cons p m i=>
  simp only[lJ]
  grind
def LX{α:Type}{m:List (Str×α)}(h:m.length<=1000000)(k:Str)(v:α):yG m k v=some (lJ m k v):=by
 unfold yG
 grind
def mem_keys{α:Type}(m:List (Str×α))(k:Str):k∈m.map (·.1)↔∃v,dn m k=some v:=by
 induction m with|nil=>simp[Oe]|cons p m i=>
  rw[mg];by_cases h:(p.1==k)=true;·simp_all
  grind
def gI{α:Type}(l:List (Str×α))(m:List (Str×α)):List (Str×α):=l.foldl (λm p=>lJ m p.1 p.2) m
def PK{α:Type}(l m:List (Str×α)):(gI l m).length<=m.length+l.length:=by induction l generalizing m with|nil=>simp[gI]|cons p l i=>have h:=i (lJ m p.1 p.2);have a:=Dh m p.1 p.2;simp only[gI,qBg,qAp]at h|-;omega
def Zt{α:Type}(l a m:List (Str×α)):gI (l++a) m=gI a (gI l m):=by simp[gI]
def awk{α:Type}(l m:List (Str×α))(k:Str):k∈(gI l m).map (·.1)↔k∈m.map (·.1)∨k∈l.map (·.1):=by
 induction l generalizing m with
 |nil=>simp[gI]
 |cons p l i=>
  have a:=i (lJ m p.1 p.2);have b:k∈(lJ m p.1 p.2).map (·.1)↔k∈m.map (·.1)∨k=p.1:=by
   rw[mem_keys,mem_keys,ab2];by_cases h:(p.1==k)=true
   ·rw[if_pos h];have e:p.1=k:=by simpa using h
    exact⟨λ_=>.inr e.symm,λ_=>⟨_,rfl⟩⟩
   rw[if_neg h];have e:k≠p.1:=λe=>h (by simp[e]);simp[e]
  rw[b]at a;simp only[gI,qBg,qAy,qAh]at a|-
  grind
def QV{α:Type}(l m:List (Str×α))(k:Str)(n:(l.map (·.1)).Nodup):dn (gI l m) k=(match dn l k with|some v=>some v|none=>dn m k):=by
 induction l generalizing m with|nil=>rfl|cons p l i=>
  rw[qAy,qCq]at n;have a:=i (lJ m p.1 p.2) n.2;simp only[gI,qBg]at a|-;rw[a,ab2,mg];by_cases h:(p.1==k)=true
  ·rw[if_pos h,if_pos h];have e:p.1=k:=by simpa using h
   have b:dn l k=none:=by cases c:dn l k with|none=>rfl|some v=>exact absurd ((mem_keys l k).2 ⟨v,c⟩) (e▸n.1)
   rw[b]
  grind
def qY{α:Type}(l:List (Str×α))(k:Str)(v:α)(h:(l.map (·.1)).Nodup):dn l k=some v↔(k,v)∈l:=by
 induction l with|nil=>simp[Oe]|cons p l i=>
  rw[mg,qAh]
  grind
def aiS{α:Type}{l a:List (Str×α)}(p:l.Perm a)(b:(l.map (·.1)).Nodup)(k:Str):dn l k=dn a k:=by
 have n:(a.map (·.1)).Nodup:=(p.map _).nodup_iff.1 b;cases h:dn l k with|some v=>rw[qY _ _ _ b]at h;exact((qY _ _ _ n).2 (p.mem_iff.1 h)).symm|none=>cases c:dn a k with|none=>rfl|some v=>rw[qY _ _ _ n]at c;rw[(qY _ _ _ b).2 (p.mem_iff.2 c)]at h;cases h
mutual
def zU(q:Int):Ty→Bool
 | .mk k _ ks=>k==q ||apE q ks
def apE(q:Int):A3→Bool
 |[]=>false
 |t::ts=>zU q t ||apE q ts
end
def acO(q:Int):∀s,apE q s=s.any (zU q)|[]=>rfl|t::s=>by simp[apE,acO q s]
def atU(q:Int):∀t:Ty,Ev (λn=>oO n t q) (zU q t):=Ty.ind λk nm s h=>by
 refine Ev.succ ?_;show Ev (λn=>Az n _ _ _ _ (.mk k nm s) q) _;unfold Az;simp only[Ty.kind,Ty.kids,zU,acO];have b:Ev (λn=>jl n s q) (s.any (zU q)):=by
  refine Ev.succ ?_;show Ev (λn=>oq n _ _ _ _ s q) _;unfold oq;refine Ev.bind (a:=dR (zU q) 0 s) (Ev.succ ?_) ?_;·show Ev (λn=>qH n _ _ _ _ s q) _;unfold qH;refine vo s (λn k i=>Bn n _ _ _ (mK n) s q k i) (λn x=>mK n x q) (zU q) (λn k i=>rfl) (λx c=>?_);refine Ev.succ ?_;show Ev (λn=>xP n _ _ _ _ x q) _;unfold xP;exact Ev.bind (h x c) Cu
  rw[mO _ _ _ (qBD _)];exact Cu
 cases d:(k==q);·exact Ev.bind (Ev.bind b Cu) Cu
 exact Ev.bind Cu Cu
def as8:∀t:Ty,Ev (λn=>uV n t) (zU 2 t):=Ty.ind λk nm s a=>by
 refine Ev.succ ?_;show Ev (λn=>Fj n _ (.mk k nm s)) _;unfold Fj;simp only[Ty.kind,zU,acO];cases q:(k==2)
 ·have h:=sN s (λn b i=>TG n (uV n) (.mk k nm s) b i) (λn x=>uV n x) (zU 2) true (λn k i=>rfl) a;simp only[cond_false,qDd];refine Ev.bind h ?_;cases s.any (zU 2)
  ·exact Cu
  exact Cu
 exact Cu
mutual
def dX:Ty→Bk
 | .mk k nm ks=>cond (k==3) [nm] (jG ks)
def jG:A3→Bk
 |[]=>[]
 |t::ts=>dX t++jG ts
end
mutual
def H9:Ty→Bool
 | .mk k _ ks=>(decide (ks.length≤2)&&(k !=3 ||ks.length==0))&&Vd ks
def Vd:A3→Bool
 |[]=>true
 |t::ts=>H9 t&&Vd ts
end
def QC:∀{s:A3},Vd s=true->∀t∈s,H9 t=true
 |[],_,t,h=>by cases h
 |u::s,h,t,ht=>by
  simp only[Vd,qAa]at h;rcases qAh.1 ht with rfl|ht
  ·exact h.1
  exact QC h.2 t ht
def akv:∀{s:A3} {t:Ty},t∈s->(dX t).length<=(jG s).length
 |[],t,h=>by cases h
 |u::s,t,ht=>by
  simp only[jG,qAe];rcases qAh.1 ht with rfl|ht
  ·omega
  have:=akv ht;omega
def aFR{k:Int}{nm:Str}{len:Nat}{d:Int}(h:fT k nm len d=true):len<=2/\(k=3->len=0):=by
 unfold fT at h
 grind
mutual
theorem aDO:∀(t:Ty) (d c:Int),(pf t d c).1=true→H9 t=true∧((dX t).length:Int)≤(pf t d c).2 - c
 | .mk k nm ks,d,c,h=>by
  simp only[pf]at h⊢;cases hb:((decide (c+1≤16)&&decide (d≤6))&&fT k nm ks.length d)with
  |false=>rw[hb]at h;cases h
  |true=>
   rw[hb]at h;simp only[cond_true]at h⊢;simp only[qAa]at hb;have hh:=aFR hb.2;have h1:=aAl ks (d+1) (c+1) h;have h2:=abd ks (d+1) (c+1) h;constructor
   ·simp only[H9,h1.1,qBH,qAa,decide_eq_true_eq,qBe,bne_iff_ne,beq_iff_eq];refine⟨hh.1,?_⟩;by_cases e:k=3
    ·exact .inr (hh.2 e)
    ·exact .inl e
   ·simp only[dX];cases k==3 with
    |true=>simp only[cond_true,qAI];omega
    |false=>simp only[cond_false];omega
theorem aAl:∀(ts:A3) (d c:Int),(kK ts d c).1=true→Vd ts=true∧((jG ts).length:Int)≤(kK ts d c).2 - c
 |[],_,c,_=>by simp[kK,Vd,jG]
 |t::ts,d,c,h=>by
  simp only[kK]at h⊢;cases hb:(pf t d c).1 with
  |false=>rw[hb]at h;cases h
  |true=>
   rw[hb]at h;simp only[cond_true]at h⊢;have h1:=aDO t d c hb;have h2:=aAl ts d _ h;simp only[Vd,h1.1,h2.1,qBH,jG,qAe];refine⟨trivial,?_⟩;omega
end
def YE{t:Ty}(h:bA t=true):H9 t=true/\(dX t).length<=16:=by
 have a:=aDO t 1 0 h;have b:=Gd t 1 0 h
 grind
def alr:∀t:Ty,H9 t=true->(dX t).length<=16->Ev (λn=>BI n t) (dX t):=Ty.ind λk nm b f o l=>by
 refine Ev.succ ?_;show Ev (λn=>Ht n _ (.mk k nm b)) _;unfold Ht;simp only[Ty.kind,dX]at l|-;simp only[H9,qAa]at o;cases q:(k==3)with|true=>exact Cu|false=>
  rw[q]at l;have h:=oZ b (λn e i s=>WV n (BI n) (.mk k nm b) e (s,i)) (λn x s=>(BI n x).bind λg=>app 16 s g) (λx s=>s++dX x) (λs=>s) (λu s=>s.length+(jG u).length<=16)
   (λn e i s=>by show cond _ _ _=_;congr 1;congr 1;simp only[qAW];rfl)
   (λx u s c j=>by
    simp only[jG,qAe]at j;refine⟨Ev.bind (f x c (QC o.2 x c) (by have:=akv c;omega)) ?_,?_⟩;·rw[qh Cl Cl];exact Cu
    simp;omega) (s0:=([]:Bk)) (by simpa using l)
  have m:∀(a:A3) (s:Bk),a.foldl (λs x=>s++dX x) s=s++jG a:=by
   intro a
   induction a with|nil=>intro s;simp[jG]|cons t a d=>intro s;simp[jG,d]
  rw[m]at h;exact Ev.bind h Cu
def axa:∀t:Ty,H9 t=true->∀m:List (Str×Bool),m.length+(dX t).length<=1000->Ev (λn=>qC n t m) (gI ((dX t).map λs=>(s,true)) m):=Ty.ind λk nm a j b m l=>by
 refine Ev.succ ?_;show Ev (λn=>BM n _ (.mk k nm a) m) _;unfold BM;simp only[Ty.kind,Ty.name,dX]at l|-;simp only[H9,qAa,decide_eq_true_eq,qBe,beq_iff_eq,bne_iff_ne]at b;have o:∀(m:List (Str×Bool)),m.length+(jG a).length<=1000->Ev (λn=>Fg n (qC n) (.mk k nm a) n (0,m)) (.nx (gI ((jG a).map λs=>(s,true)) m)):=λm p=>by
  have h:=oZ a (λn f i s=>Fg n (qC n) (.mk k nm a) f (i,s)) (λn x s=>qC n x s) (λx s=>gI ((dX x).map λs=>(s,true)) s) (λs=>s) (λu s=>s.length+(jG u).length<=1000)
   (λn f i s=>rfl)
   (λx u s g r=>by
    simp only[jG,qAe]at r;refine⟨j x g (QC b.2 x g) s Cl,?_⟩;have:=PK ((dX x).map λs=>(s,true)) s;simp only[qAi]at this;omega) (s0:=m) p
  have w:∀(c:A3) (s:List (Str×Bool)),c.foldl (λs x=>gI ((dX x).map λs=>(s,true)) s) s=gI ((jG c).map λs=>(s,true)) s:=by
   intro c
   induction c with
   |nil=>intro s;rfl
   |cons t c e=>intro s;simp only[qBg,jG,qBj,Zt,e]
  grind
 cases q:(k==3)with
 |true=>
  have v:k=3:=by simpa using q
  have d:a=[]:=by
   rcases b.1.2 with h|h
   ·exact absurd v h
   exact qAD.1 h
  rw[q]at l;simp only[cond_true,qAI]at l|-;rw[LX Cl];have y:=Dh m nm true;have:=o (lJ m nm true) (by rw[d];simp only[jG,qAA];omega);rw[d]at this|-;simp only[qAb];exact Ev.bind this Cu
 |false=>
  rw[q]at l;simp only[cond_false,qAb]at l|-;exact Ev.bind (o m l) Cu
def CK{t:Ty}(h:bA t=true):Ev (λn=>wV n t) (((gI ((dX t).map λs=>(s,true)) []).map (·.1)).mergeSort leS):=by refine Ev.bind (tK t) ?_;rw[h];let⟨a,b⟩:=YE h;refine Ev.bind (axa t a [] Cp) ?_;have:=PK ((dX t).map λs=>(s,true)) [];simp at this;unfold ow;rw[if_pos Cl];exact Cu
def RQ(t:Ty)(s:Str):s∈((gI ((dX t).map λs=>(s,true)) []).map (·.1)).mergeSort leS↔s∈dX t:=by rw[List.mem_mergeSort,awk];simp
def atu:∀t:Ty,H9 t=true->Ev (λn=>su n t) t:=Ty.ind λk nm a d o=>by
 refine Ev.succ ?_;show Ev (λn=>zV n _ (.mk k nm a)) _;unfold zV;simp only[H9,qAa]at o;have h:=oZ a (λn b i s=>Nu n (su n) (.mk k nm a) b (i,s)) (λn x s=>(su n x).bind λe=>app 48 s [e]) (λx s=>s++[x]) (λs=>s) (λu s=>s.length+u.length<=2)
  (λn b i s=>by show cond _ _ _=_;congr 1;congr 1;simp only[qAW];rfl)
  (λx u s c f=>by
   simp at f;refine⟨Ev.bind (d x c (QC o.2 x c)) ?_,?_⟩;·rw[qh Cp Cl];exact Cu
   simp;omega) (s0:=([]:A3)) (by simpa using o.1.1)
 rw[Pn]at h;exact Ev.bind h Cu
def Vl:∀t:Ty,H9 t=true->Ev (λn=>xR n t) t:=Ty.ind λk nm a d o=>by
 refine Ev.succ ?_;show Ev (λn=>GX n _ (.mk k nm a)) _;unfold GX;simp only[H9,qAa]at o;have h:=oZ a (λn b i s=>WU n (xR n) (.mk k nm a) b (i,s)) (λn x s=>(xR n x).bind λe=>app 48 s [e]) (λx s=>s++[x]) (λs=>s) (λu s=>s.length+u.length<=2)
  (λn b i s=>by show cond _ _ _=_;congr 1;congr 1;simp only[qAW];rfl)
  (λx u s c f=>by
   simp at f;refine⟨Ev.bind (d x c (QC o.2 x c)) ?_,?_⟩;·rw[qh Cp Cl];exact Cu
   simp;omega) (s0:=([]:A3)) (by simpa using o.1.1)
 rw[Pn]at h;exact Ev.bind h Cu
def dP(e:Env)(s:Str):Bool:=e.carriers.any λc=>c.name==s
def OE(c:Carrier):Bool:=ident c.name&&(!(decide (8<(c.elems.length:Int)))&&c.elems.all ident)
def EF(e:Env)(d:Decl):Bool:=named d.name&&((bA d.ty&&!(zU 2 d.ty))&&(dX d.ty).all (dP e))
def JM(e:Env):Bk:=(e.carriers.flatMap λc=>c.name::c.elems)++e.names.map (·.name)
def names2(e:Env):Bk:=e.carriers.map (·.name)++(e.carriers.flatMap (·.elems)++e.names.map (·.name))
def qU:Bk->Bk->Bool|_,[]=>true|pre,x::s=>!(pre.any (·==x))&&qU (pre++[x]) s
def anD:∀(l p:Bk),qU p l=true↔l.Nodup/\∀x∈l,x∉p
 |[],p=>by simp[qU]
 |x::l,p=>by
  simp only[qU,qAa,anD l,qAV,qCq,qAh,qDP,beq_iff_eq,qAr,qCm,or_false];constructor
  ·rintro⟨b,c,a⟩;refine⟨⟨λd=>(a x d) (.inr rfl),c⟩,?_⟩;rintro y (rfl|hy)
   ·exact λh=>b _ h rfl
   exact λh=>a y hy (.inl h)
  rintro⟨⟨b,c⟩,a⟩;refine⟨λy hy e=>a x (.inl rfl) (e▸hy),c,λy hy h=>?_⟩;rcases h with h|rfl
  ·exact a y (.inr hy) h
  exact b hy
def ahz(l:Bk):qU [] l=true↔l.Nodup:=by rw[anD];simp
def azW(cs:A7):(cs.flatMap λc=>c.name::c.elems).Perm (cs.map (·.name)++cs.flatMap (·.elems)):=by induction cs with|nil=>simp|cons c cs i=>grind
def PL(e:Env):(JM e).Perm (names2 e):=by unfold JM names2;rw[<-qAm];exact qCy _ (azW _)
def aGx(e:Env):qU [] (JM e)=qU [] (names2 e):=by
 have h:(qU [] (JM e)=true)↔(qU [] (names2 e)=true):=by rw[ahz,ahz];exact(PL e).nodup_iff
 grind
def aW(e:Env):Bool:=!(decide (8<(e.carriers.length:Int)) ||decide (64<(e.names.length:Int)))&&(e.carriers.all OE&&(e.names.all (EF e)&&qU [] (names2 e)))
def aox(e:Env)(s:Str):Ev (λn=>Fz n e s) (dP e s):=by refine Ev.bind (a:=dP e s) ?_ Cu;refine Ev.bind (vo e.carriers (λn k i=>zK n e.carriers s k i) (λ_ x=>some (x.name==s)) (λc=>c.name==s) (λn k i=>rfl) (λx _=>Ev.ret _)) ?_;rw[mO _ _ _ (qBD _)];exact Cu
def auh(e:Env){t:Ty}(h:bA t=true):Ev (λn=>Ct n e t) ((dX t).all (dP e)):=by
 refine Ev.bind (CK h) ?_;generalize b:((gI ((dX t).map λs=>(s,true)) []).map (·.1)).mergeSort leS=l;have m:∀s,s∈l↔s∈dX t:=λs=>by rw[<-b];exact RQ t s
 have f:=vo l (λn k i=>AP n l e.carriers e.names k i) (λn x=>Fh n x e.carriers e.names) (λs=>!(dP e s)) (λn k i=>rfl) (λx _=>by exact Ev.bind (aox e x) Cu)
 refine Ev.bind (a:=l.any λs=>!(dP e s)) (Ev.bind f ?_) ?_;·rw[mO _ _ _ (qBD _)];exact Cu
 rw[qm,qCk];have:l.all (dP e)=(dX t).all (dP e):=by grind
 rw[this];exact Cu
def DX(e:Env)(s:Str):Ev (λn=>nT n e s) (dR (λc=>c.name==s) 0 e.carriers):=by exact vo e.carriers (λn k i=>OZ n e s k i) (λ_ x=>some (x.name==s)) (λc=>c.name==s) (λn k i=>rfl) (λx _=>Ev.ret _)
def anU(a:Int):decide (a<0)=!(decide (0<=a)):=by grind
def ahA(e:Env){t:Ty}(h:bA t=true):Ev (λn=>K5 n e t) ((dX t).all (dP e)):=by
 let⟨b,c⟩:=YE h;refine Ev.bind (alr t b c) ?_;have a:=sN (dX t) (λn k i=>afP n e (dX t) k i) (λn x=>(nT n e x).bind λd=>some (decide (d<0))) (λs=>!(dP e s)) false
  (λn k i=>by show cond _ _ _=_;congr 1;congr 1;simp only[qAW];rfl)
  (λx _=>by refine Ev.bind (DX e x) ?_;rw[anU,mO _ _ _ (qBD _)];exact Cu)
 rw[qm]at a;refine Ev.bind a ?_;cases(dX t).all (dP e);·exact Cu
 exact Cu
def auc(e:Env)(h:(JM e).length<=1000000):Ev (λn=>Co n e) (JM e):=by
 unfold Co;simp only[JM,qAe,qAi]at h;have j:=oZ e.carriers (λn k i s=>Ni n e k (s,i)) (λn x s=>(app 16 s [x.name]).bind λm=>app 16 m x.elems) (λx s=>s++(x.name::x.elems)) (λs=>s) (λu s=>s.length+(u.flatMap λc=>c.name::c.elems).length<=1000000)
  (λn k i s=>by show cond _ _ _=_;congr 1;show(idx e.carriers i).bind _=_;congr 1;funext x;simp only[qAW];rfl)
  (λx u s o b=>by
   simp only[qBf,qAe,qAp]at b;refine⟨?_,?_⟩;·rw[qh (by simp only[qAI];omega) Cl,qAb,qh (by simp only[qAe,qAI];omega) Cl];rw[qAm];exact Cu
   simp only[qAe,qAp];omega) (s0:=([]:Bk)) (by simp only[qAA];omega)
 have f:∀(a:A7) (s:Bk),a.foldl (λs x=>s++(x.name::x.elems)) s=s++a.flatMap λc=>c.name::c.elems:=by
  intro a
  induction a with|nil=>intro s;simp|cons c a d=>intro s;rw[qBg,d];simp
 rw[f,qAo]at j;have l:=oZ e.names (λn k i s=>Nq n e k (s,i)) (λn x s=>app 16 s [x.name]) (λx s=>s++[x.name]) (λs=>s) (λu s=>s.length+u.length<=1000000)
  (λn k i s=>rfl)
  (λx u s o b=>by
   simp only[qAp]at b;refine⟨?_,?_⟩;·rw[qh (by simp only[qAI];omega) Cl];exact Cu
   simp only[qAe,qAI];omega) (s0:=e.carriers.flatMap λc=>c.name::c.elems) Cl
 have g:∀(a:A4) (s:Bk),a.foldl (λs x=>s++[x.name]) s=s++a.map (·.name):=by
  intro a
  induction a with|nil=>intro s;simp|cons c a d=>intro s;rw[qBg,d];simp
 rw[g]at l;exact Ev.bind j (Ev.bind l Cu)
def aua(e:Env)(h:(names2 e).length<=1000000):Ev (λn=>ME n e) (names2 e):=by
 unfold ME;simp only[names2,qAe,qAi]at h;have l:=oZ e.carriers (λn k i s=>WT n e k (s,i)) (λn x s=>app 16 s [x.name]) (λx s=>s++[x.name]) (λs=>s) (λu s=>s.length+u.length<=1000000)
  (λn k i s=>rfl)
  (λx u s m b=>by
   simp only[qAp]at b;refine⟨?_,?_⟩;·rw[qh (by simp only[qAI];omega) Cl];exact Cu
   simp only[qAe,qAI];omega) (s0:=([]:Bk)) (by simp only[qAA];omega)
 have f:∀(a:A7) (s:Bk),a.foldl (λs x=>s++[x.name]) s=s++a.map (·.name):=by
  intro a
  induction a with|nil=>intro s;simp|cons c a d=>intro s;rw[qBg,d];simp
 rw[f,qAo]at l;have o:=oZ e.carriers (λn k i s=>VO n e k (s,i)) (λn x s=>app 16 s x.elems) (λx s=>s++x.elems) (λs=>s) (λu s=>s.length+(u.flatMap (·.elems)).length<=1000000)
  (λn k i s=>rfl)
  (λx u s m b=>by
   simp only[qBf,qAe]at b;refine⟨?_,?_⟩;·rw[qh Cl Cl];exact Cu
   simp only[qAe];omega) (s0:=e.carriers.map (·.name)) (by simp only[qAi];omega)
 have g:∀(a:A7) (s:Bk),a.foldl (λs x=>s++x.elems) s=s++a.flatMap (·.elems):=by
  intro a
  induction a with|nil=>intro s;simp|cons c a d=>intro s;rw[qBg,d];simp
 rw[g]at o;have p:=oZ e.names (λn k i s=>XO n e k (s,i)) (λn x s=>app 16 s [x.name]) (λx s=>s++[x.name]) (λs=>s) (λu s=>s.length+u.length<=1000000)
  (λn k i s=>rfl)
  (λx u s m b=>by
   simp only[qAp]at b;refine⟨?_,?_⟩;·rw[qh (by simp only[qAI];omega) Cl];exact Cu
   simp only[qAe,qAI];omega) (s0:=e.carriers.map (·.name)++e.carriers.flatMap (·.elems)) (by simp only[qAe,qAi];omega)
 have j:∀(a:A4) (s:Bk),a.foldl (λs x=>s++[x.name]) s=s++a.map (·.name):=by
  intro a
  induction a with|nil=>intro s;simp|cons c a d=>intro s;rw[qBg,d];simp
 rw[j,qAm]at p;exact Ev.bind l (Ev.bind o (Ev.bind p Cu))
def atF(l:Bk)(f:l.length<=1000000):Ev (λn=>Cm n l) (qU [] l):=by
 unfold Cm;have h:=V3 l (λn k i s=>NR n l k (i,s)) (λn x s=>(mel (dn s x) (some false) (λg=>some g):Ax).bind λj=>cond j (some (.rt false)) ((yG s x true).bind λm=>some (.nx m))) (λx s=>cond ((dn s x).getD false) (.rt false) (.nx (lJ s x true))) (λ_=>())
  (λu s=>s.length+u.length<=1000000)
  (λn k i s=>by show cond _ _ _=_;congr 1;show(idx l i).bind _=_;congr 1;funext x;cases dn s x with|none=>simp only[mel,qAb,cond_false,qAW];rfl|some b=>cases b<;>simp only[mel,qAb,cond_false,cond_true,qAW];rfl)
  (λx u s q a=>by
   simp only[qAp]at a;refine⟨?_,λr e=>?_⟩;·rw[LX Cl];cases dn s x with|none=>exact Cu|some b=>cases b<;>exact Cu
   cases c:(dn s x).getD false with|true=>rw[c]at e;cases e|false=>rw[c]at e;cases e;have:=Dh s x true;omega) (s0:=([]:List (Str×Bool))) (by simpa using f)
 have d:∀(u p:Bk) (s:List (Str×Bool)),(∀x,dn s x=if p.any (·==x)then some true else none)->fG (τ:=Unit) (λx s=>cond ((dn s x).getD false) (.rt false) (.nx (lJ s x true))) (λ_=>()) u s=cond (qU p u) (.nx ()) (.rt false):=by
  intro u
  induction u with|nil=>intro p s _;rfl|cons x u o=>
   intro p s a;simp only[fG,qU];rw[a x];cases c:p.any (·==x)with|true=>rfl|false=>simp only[qBR,if_false,qDl,cond_false,qBb,qAu];refine o (p++[x]) _ (λy=>?_);rw[ab2,a y];simp only[List.any_append,qCA,List.any_nil,qDc];cases t:(x==y)with|true=>simp|false=>simp
 rw[d l [] [] (λx=>rfl)]at h;refine Ev.bind h ?_;cases qU [] l;·exact Cu
 exact Cu
def axE(l:Bk):Ev (λn=>Ma n l n 0) (cond (qU [] l) (.nx ()) (.rt false)):=by
 have h:=Qk l (λn k i (_:Unit)=>Ma n l k i) (λn i x _=>(kQ l 0 i).bind λc=>(Mi n x c).bind λd=>cond d (some (.rt false)) (some (.nx ()))) (λi x _=>cond ((l.take i.toNat).any (·==x)) (.rt false) (.nx ())) (λ_=>())
  (λi u _=>∃p,l=p++u/\i=(p.length:Int))
  (λn k i s=>by
   show cond _ _ _=_;congr 1;congr 1;funext x;cases kQ l 0 i with|none=>rfl|some y=>simp;cases Mi n x y with|none=>rfl|some b=>cases b<;>rfl)
  (λi x u s g e=>by
   obtain⟨p,a,rfl⟩:=e;refine⟨?_,λ_ _=>⟨p++[x],by rw[a];simp,by simp⟩⟩;rw[ahI l p.length (by rw[a];simp)];simp;refine Ev.bind (asK _ _) ?_;cases(l.take p.length).any (·==x);·exact Cu
   exact Cu) (s0:=()) ⟨[],rfl,rfl⟩
 have f:∀(u p:Bk),l=p++u->lu (τ:=Unit) (λi x _=>cond ((l.take i.toNat).any (·==x)) (.rt false) (.nx ())) (λ_=>()) (p.length:Int) u ()=cond (qU p u) (.nx ()) (.rt false):=by
  intro u
  induction u with|nil=>intro p _;rfl|cons x u j=>
   intro p a;have t:l.take p.length=p:=by rw[a];simp
   simp only[lu,qU]
   grind
 grind
def afr{e:Env}(b:¬8<(e.carriers.length:Int))(h2:¬64<(e.names.length:Int))(a:e.carriers.all OE=true):(names2 e).length<=1000:=by
 have k:∀s:A7,s.all OE=true->(s.flatMap (·.elems)).length<=8*s.length:=by
  intro s
  induction s with|nil=>intro _;simp|cons c s i=>
   intro h;simp only[qBC,OE]at h
   grind
 have:=k _ a;simp only[names2,qAe,qAi];omega
def C8(e:Env)(hs:∀d∈e.names,d.name.length<=9223372036854775807):Ev (λn=>rY n e) (aW e):=by
 unfold rY;by_cases j:8<(e.carriers.length:Int)
 ·have:aW e=false:=by simp only[aW,decide_eq_true j,qCj,qAv,qBk]
  rw[this,decide_eq_true j];exact Cu
 by_cases o:64<(e.names.length:Int)
 ·have:aW e=false:=by simp only[aW,decide_eq_true o,qDm,qAv,qBk]
  rw[this,decide_eq_true o,decide_eq_false j];exact Cu
 simp only[aW,decide_eq_false j,decide_eq_false o,qDc,qBb,qAu,cond_false,qAb];have f:=an6 e.carriers (λn k i=>NZ n e k i) (λn x=>((gX n x.name).bind λg=>cond (!g) (some true) (some (decide (8<(x.elems.length:Int))))).bind λu=>cond u (some (.rt false)) ((wz n x n 0).bind (LR.el (λ_=>some (.nx ())) (λr=>some (.rt r))))) (λc=>!(OE c)) false
  (λn k i=>by
   show cond _ _ _=_;congr 1;congr 1;funext x;cases((gX n x.name).bind λg=>cond (!g) (some true) (some (decide (8<(x.elems.length:Int)))))with
   |none=>rfl
   |some b=>
    cases b with
    |true=>rfl
    |false=>
     simp only[qAb,cond_false];cases wz n x n 0 with
     |none=>rfl
     |some r=>cases r<;>rfl)
  (λc q=>by
   refine Ev.bind (a:=!(ident c.name) ||decide (8<(c.elems.length:Int))) (Ev.bind (rM c.name) ?_) ?_
   ·cases ident c.name
    ·exact Cu
    exact Cu
   unfold OE;cases ident c.name with
   |false=>exact Cu
   |true=>
    cases decide (8<(c.elems.length:Int))with
    |true=>exact Cu
    |false=>
     simp only[qAv,qDd,cond_false,qAu,qBb];have h:=sN c.elems (λn k i=>wz n c k i) (λn x=>(gX n x).bind λv=>some (!v)) (λs=>!(ident s)) false
      (λn k i=>by
       show cond _ _ _=_;congr 1;congr 1;funext x;simp only[qAW,qAb];rfl)
      (λx _=>Ev.bind (rM x) Cu)
     rw[qm]at h;refine Ev.bind h ?_;cases c.elems.all ident
     ·exact Cu
     exact Cu)
 rw[qm]at f;refine Ev.bind f ?_;cases q:e.carriers.all OE with
 |false=>exact Cu
 |true=>
  simp only[qAv,cond_false,qAu];have l:=sN e.names (λn k i=>Oa n e k i) (λn x=>(wB n x.name).bind λw=>cond (!w) (some true) ((yt n x.ty).bind λy=>cond (!y) (some true) ((Ct n e x.ty).bind λz=>some (!z)))) (λd=>!(EF e d)) false
   (λn k i=>rfl)
   (λd t=>by
    refine Ev.bind (afh d.name (hs d t)) ?_;unfold EF;cases named d.name with
    |false=>exact Cu
    |true=>
     simp only[qAv,cond_false,qAu];refine Ev.bind (a:=bA d.ty&&!(zU 2 d.ty)) ?_ ?_
     ·unfold yt;refine Ev.bind (a:=bA d.ty&&!(zU 2 d.ty)) (Ev.bind (tK d.ty) ?_) Cu;cases bA d.ty with
      |false=>exact Cu
      |true=>exact Ev.bind (atU 2 d.ty) Cu
     cases A:bA d.ty with
     |false=>exact Cu
     |true=>
      cases zU 2 d.ty with
      |true=>exact Cu
      |false=>exact Ev.bind (auh e A) Cu)
  rw[qm]at l;refine Ev.bind l ?_;cases t:e.names.all (EF e)with
  |false=>exact Cu
  |true=>
   simp only[qAv,cond_false,qAu];have m:=afr j o q;have p:(JM e).length<=1000:=by rw[(PL e).length_eq];exact m
   refine Ev.bind (auc e Cl) ?_;rw[<-aGx];exact Ev.bind (atF _ Cl) Cu
def KX(e:Env):Ev (λn=>BG n e) (aW e):=by
 unfold BG;by_cases j:8<(e.carriers.length:Int)
 ·have:aW e=false:=by simp only[aW,decide_eq_true j,qCj,qAv,qBk]
  rw[this,decide_eq_true j];exact Cu
 by_cases m:64<(e.names.length:Int)
 ·have:aW e=false:=by simp only[aW,decide_eq_true m,qDm,qAv,qBk]
  rw[this,decide_eq_true m,decide_eq_false j];exact Cu
 simp only[aW,decide_eq_false j,decide_eq_false m,qDc,qBb,qAu,cond_false,qAb];have f:=an6 e.carriers (λn k i=>VH n e k i) (λn x=>((jk n x.name).bind λg=>cond (!g) (some true) (some (decide (8<(x.elems.length:Int))))).bind λt=>cond t (some (.rt false)) ((EB n x n 0).bind (LR.el (λ_=>some (.nx ())) (λr=>some (.rt r))))) (λc=>!(OE c)) false
  (λn k i=>by
   show cond _ _ _=_;congr 1;congr 1;funext x;cases((jk n x.name).bind λg=>cond (!g) (some true) (some (decide (8<(x.elems.length:Int)))))with
   |none=>rfl
   |some b=>
    cases b with
    |true=>rfl
    |false=>
     simp only[qAb,cond_false];cases EB n x n 0 with
     |none=>rfl
     |some r=>cases r<;>rfl)
  (λc p=>by
   refine Ev.bind (a:=!(ident c.name) ||decide (8<(c.elems.length:Int))) (Ev.bind (qw c.name) ?_) ?_
   ·cases ident c.name
    ·exact Cu
    exact Cu
   unfold OE;cases ident c.name with
   |false=>exact Cu
   |true=>
    cases decide (8<(c.elems.length:Int))with
    |true=>exact Cu
    |false=>
     simp only[qAv,qDd,cond_false,qAu,qBb];have h:=sN c.elems (λn k i=>EB n c k i) (λn x=>(jk n x).bind λo=>some (!o)) (λs=>!(ident s)) false
      (λn k i=>by
       show cond _ _ _=_;congr 1;congr 1;funext x;simp only[qAW,qAb];rfl)
      (λx _=>Ev.bind (qw x) Cu)
     rw[qm]at h;refine Ev.bind h ?_;cases c.elems.all ident
     ·exact Cu
     exact Cu)
 rw[qm]at f;refine Ev.bind f ?_;cases p:e.carriers.all OE with
 |false=>exact Cu
 |true=>
  simp only[qAv,cond_false,qAu];have l:=sN e.names (λn k i=>WH n e k i) (λn x=>(KN n x.name).bind λu=>cond (!u) (some true) ((uS n x.ty).bind λv=>cond (!v) (some true) ((uV n x.ty).bind λw=>cond w (some true) ((K5 n e x.ty).bind λo=>some (!o))))) (λd=>!(EF e d)) false
   (λn k i=>rfl)
   (λd y=>by
    refine Ev.bind (afa d.name) ?_;unfold EF;cases named d.name with
    |false=>exact Cu
    |true=>
     simp only[qAv,cond_false,qAu];refine Ev.bind (Cw d.ty) ?_;cases z:bA d.ty with
     |false=>exact Cu
     |true=>
      refine Ev.bind (as8 d.ty) ?_;cases zU 2 d.ty with
      |true=>exact Cu
      |false=>exact Ev.bind (ahA e z) Cu)
  rw[qm]at l;refine Ev.bind l ?_;cases y:e.names.all (EF e)with
  |false=>exact Cu
  |true=>
   simp only[qAv,cond_false,qAu];have q:=afr j m p;refine Ev.bind (aua e Cl) ?_;refine Ev.bind (axE _) ?_;cases qU [] (names2 e)
   ·exact Cu
   exact Cu
theorem Jl(n:Nat)(q:Val->Val->B0)(p:Val)(a:Val)(k:Nat)(s:Int):GD n q p a (k+1) s=yL n q p a (GD n q p a k) s:=rfl
theorem aiU(n:Nat)(p:A2)(k:Nat)(s:Int):Gw n p (k+1) s=K3 n p (Gw n p k) s:=rfl
theorem pU(n:Nat)(q:Af->Af->B0)(b:Val->Val->B0)(p:Af)(a:Af)(k:Nat)(s:Int):mW n q b p a (k+1) s=jJ n q b p a (mW n q b p a k) s:=rfl
def XV:Af->Af->LR Unit Int|[],_=>.nx ()|_::_,[]=>.rt 1|a::s,b::c=>cond (bQ a b !=0) (.rt (bQ a b)) (XV s c)
def am4:∀(s c:Af) (x y:Nat),x+c.length=y+s.length->(match XV s c with| .nx _=>cond (decide ((x:Int)<(y:Int))) (-1) 0| .rt r=>r)=eZ s c
 |[],[],x,y,h=>by simp only[XV,eZ];rw[decide_eq_false (by simp at h;omega)];rfl|[],b::c,x,y,h=>by simp only[XV,eZ];rw[decide_eq_true (by simp at h;omega)];rfl|a::s,[],x,y,h=>rfl|a::s,b::c,x,y,h=>by simp only[XV,eZ];cases d:(bQ a b !=0)with|true=>rfl|false=>exact am4 s c x y (by simp at h;omega)
def akS(n:Nat)(a b:Int):cmp_Compare_int n a b=some (kP a b):=by
 unfold cmp_Compare_int kP
 grind
def aD7(a b c:Int):Ev (λn=>Yp n [a,b,c]) (cond (a !=0) a (cond (b !=0) b (cond (c !=0) c 0))):=by
 refine⟨4,λn h=>?_⟩;obtain⟨m,rfl⟩:∃m,n=m+4:=⟨n - 4,by omega⟩;show(Gw (m+4) [a,b,c] (m+4) 0).bind _=_;have i:idx [a,b,c] 0=some a:=rfl;have d:idx [a,b,c] (0+1)=some b:=rfl;have e:idx [a,b,c] (0+1+1)=some c:=rfl;simp only[aiU,K3]
 grind
def apQ:∀(s:Af),(∀a∈s,∀b,Ev (λn=>dY n a b) (bQ a b))->∀(d p c:Af),p.length=c.length->∃N,∀n,N<=n->∀k,s.length+1<=k->mW n (lV n) (dY n) (p++s) (c++d) k (p.length:Int)=some (XV s d)
 |[],_,d,p,c,e=>by
  refine⟨0,λn _ k h=>?_⟩;obtain⟨j,rfl⟩:∃j,k=j+1:=⟨k - 1,by simp at h;omega⟩;rw[pU];unfold jJ;rw[decide_eq_false cn];rfl
 |a::s,H,[],p,c,e=>by
  refine⟨0,λn _ k h=>?_⟩;obtain⟨j,rfl⟩:∃j,k=j+1:=⟨k - 1,by simp at h;omega⟩;rw[pU];unfold jJ;rw[decide_eq_true Cp,gJ];simp only[cond_true,qAb];rw[decide_eq_true Cp];rfl
 |a::s,H,b::d,p,c,e=>by
  let⟨i,f⟩:=H a cn b;let⟨l,g⟩:=apQ s (λx m=>H x (by simp[m])) d (p++[a]) (c++[b]) (by simp[e]);refine⟨i+l,λn o k h=>?_⟩;obtain⟨j,rfl⟩:∃j,k=j+1:=⟨k - 1,by simp at h;omega⟩;have f:dY n a b=_:=f n Cl;have g:=g n Cl j (by simp at h;omega);rw[pU];unfold jJ;rw[decide_eq_true Cp,gJ];simp only[cond_true,qAb];rw[decide_eq_false Cp,show(p.length:Int)=(c.length:Int) by rw[e],gJ];simp only[cond_false,qAb];rw[f];simp only[qAb,XV];cases q:(bQ a b !=0)with
  |true=>rfl
  |false=>
   simp only[cond_false];rw[show(c.length:Int)+1=((p++[a]).length:Int) by simp[e]];simpa using g
def amE(s c:Af)(H:∀a∈s,∀b,Ev (λn=>dY n a b) (bQ a b)):Ev (λn=>lV n s c) (eZ s c):=by
 let⟨N,h⟩:=apQ s H c [] [] rfl;refine Ev.succ ?_;refine⟨N+s.length+1,λn d=>?_⟩;have:=h n Cl n Cl;simp only[qAo,qAA]at this;show pV n _ _ s c=_;unfold pV;rw[show((0:Nat):Int)=0 from rfl]at this;have e:=am4 s c s.length c.length Cl
 grind
def Eu(a b:Val):Ev (λn=>dY n a b) (bQ a b):=by
 revert b
 induction a using Val.ind with|h k n s d i=>
  intro b;let⟨e,f,g,c⟩:=b;have p:=amE d c i;refine Ev.succ ?_;show Ev (λm=>Fx m _ _ (.mk k n s d) (.mk e f g c)) _;unfold Fx;simp only[akS,strings_Compare,qAb,Val.kind,Val.n,Val.name,Val.kids];refine Ev.bind (aD7 _ _ _) ?_;simp only[bQ];cases j:(kP k e !=0)with|true=>simp only[cond_true,j];exact Cu|false=>
   cases l:(kP n f !=0)with|true=>simp only[cond_true,cond_false,l];exact Cu|false=>cases o:(Lib.compareBytes s g !=0)with|true=>simp only[cond_true,cond_false,o];exact Cu|false=>grind
def sign_eq(n:Nat)(a b:Int):LM n a b=some (kP a b):=by
 unfold LM kP
 grind
def anr:∀(s:Af),(∀a∈s,∀b,Ev (λn=>nI n a b) (bQ a b))->∀(d p c:Af) (f g i l:Int) (s1 m:Str),p.length=c.length->(p++s).length<=9223372036854775807->∃N,∀n,N<=n->∀k,s.length+1<=k->(GD n (nI n) (.mk f g s1 (p++s)) (.mk i l m (c++d)) k (p.length:Int)).bind (LR.el (λ(_:Unit)=>(LM n ((p++s).length:Int) ((c++d).length:Int)).bind λ(u:Int)=>some u) (λr=>some r))=some (eZ s d)
 |[],_,d,p,c,f,g,i,l,s1,m,h,o=>by
  refine⟨0,λn _ k e=>?_⟩;obtain⟨j,rfl⟩:∃j,k=j+1:=⟨k - 1,by simp at e;omega⟩;rw[Jl];unfold yL;rw[decide_eq_false (by simp[Val.kids])];simp only[cond_false,qAb,LR.el,sign_eq,Option.some.injEq];cases d with
  |nil=>simp[kP,eZ,h]
  |cons b d=>
   simp only[eZ,kP];rw[decide_eq_true Cp];rfl
 |a::s,H,[],p,c,f,g,i,l,s1,m,h,o=>by
  refine⟨0,λn _ k e=>?_⟩;obtain⟨j,rfl⟩:∃j,k=j+1:=⟨k - 1,by simp at e;omega⟩;rw[Jl];unfold yL;rw[decide_eq_true (by simp[Val.kids];omega)];simp only[cond_true,qAb];rw[decide_eq_false (by simp[Val.kids];omega)];simp only[cond_false,qAb,LR.el,sign_eq,Option.some.injEq,eZ,kP];rw[decide_eq_false Cp,decide_eq_true Cp];rfl
 |a::s,H,b::d,p,c,f,g,i,l,s1,m,h,o=>by
  let⟨v,q⟩:=H a cn b;let⟨w,t⟩:=anr s (λx y=>H x (by simp[y])) d (p++[a]) (c++[b]) f g i l s1 m (by simp[h]) (by simpa using o);refine⟨v+w,λn A k e=>?_⟩;obtain⟨j,rfl⟩:∃j,k=j+1:=⟨k - 1,by simp at e;omega⟩;have q:nI n a b=_:=q n Cl;have t:=t n Cl j (by simp at e;omega);rw[Jl];unfold yL;rw[decide_eq_true (by simp[Val.kids];omega)];simp only[cond_true,qAb];rw[decide_eq_true (by simp[Val.kids];omega)];simp only[cond_true,qAb,Val.kids];rw[gJ,show(p.length:Int)=(c.length:Int) by rw[h],gJ];simp only[qAb];rw[q];simp only[qAb,eZ];cases B:(bQ a b !=0)with
  |true=>rfl
  |false=>
   simp only[cond_false];have z:IntKind.wrap .i64 ((c.length:Int)+1)=((p++[a]).length:Int):=by
    rw[wrap64 Cl (by simp at o;omega)];simp[h]
   rw[z];simpa using t
def afE(a b:Val)(j:gU a):Ev (λn=>nI n a b) (bQ a b):=by
 revert b
 induction a using Val.ind with|h k n s g o=>
  intro b;let⟨c,d,e,f⟩:=b;let⟨l,i⟩:=j.kids;simp only[Val.kids]at l i;let⟨N,h⟩:=anr g (λa h b=>o a h (i a h) b) f [] [] k n c d s e rfl (by simpa using l);refine Ev.succ ?_;show Ev (λm=>Jd m _ (.mk k n s g) (.mk c d e f)) _;unfold Jd;simp only[sign_eq,qAb,Val.kind,Val.n,Val.name,bQ];have p:(k !=c)=(kP k c !=0):=by
   unfold kP
   grind
  have q:(n !=d)=(kP n d !=0):=by
   unfold kP
   grind
  rw[p,q,(Og s e).1,(Og s e).2];cases r:(kP k c !=0)with|true=>exact Cu|false=>
   simp only[cond_false];cases t:(kP n d !=0)with|true=>exact Cu|false=>
    simp only[cond_false];have hb:=am5 s e;rcases hb with hb|hb|hb<;>rw[hb]
    ·exact Cu
    ·refine⟨N+g.length+1,λm u=>?_⟩;have:=h m Cl m Cl;simp only[qAo,qAA,sign_eq,qAb]at this;exact this
    exact Cu
end Abs
end Go.Proofs.YtneeginmfjageaaGreat

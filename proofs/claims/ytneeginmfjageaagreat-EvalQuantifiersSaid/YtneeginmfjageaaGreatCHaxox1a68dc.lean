/-
  Contracts of library functions as entries. Conditions: none.
-/
import Derived.KernelRfl
import Derived.Test.YtneeginmfjageaaGreatCClnoxf3e0ba
import Derived.Test.YtneeginmfjageaaGreatCDfox826bf1
import Derived.Test.YtneeginmfjageaaGreatCP1ox88a46d
set_option linter.all false
namespace Go.Proofs.YtneeginmfjageaaGreat
namespace Abs
section
open Go Go.Proofs
theorem NK{P:Program}{te:Nat}{e:Ent}(h1:kE P e.f=true)(h2:M7 e=true)(hp:e.pe=none)(h:∀x y,e.F x=some y→∀y',HEq y' y→cK P e.f (aT (dJ bI e.ps (eD _ x) (dn e.na) []).2 (dJ bI e.ps (eD _ x) (dn e.na) []).1) (aA (dJ bI e.ps (eD _ x) (dn e.na) []).2)
  (av (dJ bI e.rs (eD _ (e.out y')) (dn e.nr) (dJ bI e.ps (eD _ x) (dn e.na) []).2).2 (res1 (dJ bI e.rs (eD _ (e.out y')) (dn e.nr) (dJ bI e.ps (eD _ x) (dn e.na) []).2).1)) (aA (dJ bI e.rs (eD _ (e.out y')) (dn e.nr) (dJ bI e.ps (eD _ x) (dn e.na) []).2).2)):ah P te e:=by
 obtain⟨f,na,ps,nr,rs,R,pe,g,F,out⟩:=e;cases hp;refine⟨h1,h2,fun x y hF t h' hb=>?_⟩;have:=h x y hF y HEq.rfl;intro r h2 hb2
 grind
theorem acL(n:Nat):ah Tryz.prog TE (acR n):=NK aFJ (by kernel_rfl) rfl fun x y h y' hy=>by
 cases hy;exact Zn n x.1 x.2 y h
theorem aff{α:Type}{b:Nat}{x y:List α}(h:app b ([]:List α) x=some y):y=x:=by
 unfold app at h
 grind
theorem WK(n:Nat):ah Tryz.prog TE (VL n):=NK azz (by kernel_rfl) rfl fun x y h y' hy=>by
 cases hy;have e:y=x:=aff h;subst e;exact E8 56 y y h rfl
theorem Eb(n:Nat):ah Tryz.prog TE (SF n):=NK azz (by kernel_rfl) rfl fun x y h y' hy=>by
 cases hy;have e:y=x:=aff h;subst e;exact aeO 56 y y h rfl
theorem Qj(n:Nat):ah Tryz.prog TE (Qo n):=NK aCZ (by kernel_rfl) rfl fun x y h y' hy=>by
 cases hy;have e:y=x:=aff h;subst e;exact acX 24 y y h rfl
theorem aap(n:Nat):ah Tryz.prog TE (aax n):=NK aFD (by kernel_rfl) rfl fun x y h y' hy=>by
 cases hy;exact Ye n x y h
theorem WI(n:Nat)(p0:List Val)(r:List Val)(h:wQ n p0=some r):cK Tryz.prog 74 [.psl 0 4 (List.length p0)] [.arr 4 (List.map aQ p0)] (.psl 0 4 (List.length p0)) [.arr 4 (List.map aQ p0)]:=by
 intro κ ak w vs hen hvl hr;have h0:=hr 0 (by simp)
 match vs,hvl with
 |[v],_=>
 simp only[List.getD,qAF,qAv]at h0;cases h0 with
 |@psl _ _ _ cap a g1 g2 g3=>
  refine(HY a _ cap g1 g2 w).mono ?_;rintro e w' ⟨rfl,rfl⟩;refine⟨_,κ,rfl,Leave.same hen (qCV _ _),.psl (qAd _) g2 ?_⟩;obtain⟨_,⟨ha,hc⟩|⟨b,c,el,hb,ha,hh,hs⟩⟩:=g3
  ·exact⟨rfl,.inl ⟨ha,by omega⟩⟩
  ·exact⟨rfl,.inr ⟨b,c,el,hb,ha,hh,qAu (qAQ 4 g1) hs⟩⟩
theorem Yf(n:Nat):ah Tryz.prog TE (Yt n):=NK aEy (by kernel_rfl) rfl fun x y h y' hy=>by
 cases hy;exact WI n x x rfl
theorem Sr(n:Nat):ah Tryz.prog TE (SG n):=NK aCO (by kernel_rfl) rfl fun x y h y' hy=>by
 cases hy;exact Qh n x y h
end
section
open Go Go.Proofs
set_option maxRecDepth 100000
theorem CZ(n:Nat):ah Tryz.prog TE (ah2 n):=MKS n [(3,.jn [.r 2 .B] false)] .n @Tryz.func9
theorem aw7(n:Nat):ah Tryz.prog TE (ak5 n):=MKS n [(12,.jn [.r 3 .B] false),(51,.jn [.r 22 .B] false),(831,.jn [.r 40 .B] false)] .n @Tryz.func174
theorem SI(n:Nat):ah Tryz.prog TE (adQ n):=MKS n [(3,.jn [.r 2 .B] false)] .n @Tryz.func127
theorem abN(n:Nat):ah Tryz.prog TE (at0 n):=MKS n [(26,.lp [.r 5 .I] 0 [])] .n @Tryz.func103
theorem aa6(n:Nat):ah Tryz.prog TE (Zx n):=MKS n [] (.c (abN n) .n) @Tryz.func128
theorem NG(n:Nat):ah Tryz.prog TE (ahl n):=MKS n [(3,.jn [.r 2 .B] false)] .n @Tryz.func129
theorem vC(n:Nat):ah Tryz.prog TE (RD n):=MKS n [(6,.jn [.r 21 .B] false),(58,.lp [.r 3 .I] 0 []),(932,.jn [.r 45 .B] false)] (.c (SI n) (.c (aa6 n) (.c (NG n) .n))) @Tryz.func99
theorem SQ(n:Nat):ah Tryz.prog TE (R7 n):=MKS n [(3,.jn [.r 2 .B] false)] (.c (vC n) .n) @Tryz.func176
theorem aiN(n:Nat):ah Tryz.prog TE (ah3 n):=MKS n [(3,.jn [.r 2 .B] false)] (.c (vC n) (.c (SQ n) .n)) @Tryz.func100
theorem SE(n:Nat):ah Tryz.prog TE (adM n):=MKS n [(3,.jn [.r 2 .B] false)] .n @Tryz.func62
theorem aha:∀n,ah Tryz.prog TE (af7 n)
 |0=>iZ (fn:=Tryz.f119) (by kernel_rfl) fun _=>rfl
 |n+1=>MKS n [(14,.jn [.r 25 .B] false),(31,.jn [.r 7 .I] true),(126,.jn [.r 61 .B] false),(250,.jn [.r 28 .B] false),(1018,.lp [.r 2 .I,.r 8 .I] 1 [.r 2 .I])] (.c (vC n) (.c (aha n) .n)) @Tryz.func119
theorem Cr(n:Nat):ah Tryz.prog TE (Tv n):=MKS n [] (.c (aha n) .n) @Tryz.func57
theorem an1(n:Nat):ah Tryz.prog TE (X7 n):=MKS n [(3,.jn [.r 2 .B] false)] .n @Tryz.func175
theorem ayV(n:Nat):ah Tryz.prog TE (akY n):=MKS n [(14,.jn [.r 29 .B] false),(15,.jn [] true),(62,.jn [.r 72 .B] false),(506,.jn [.r 2 .B] false)] (.c (aw7 n) (.c (aiN n) (.c (SE n) (.c (vC n) (.c (Cr n) (.c (an1 n) .n)))))) @Tryz.func98
theorem agK:∀n,ah Tryz.prog TE (aiK n)
 |0=>iZ (fn:=Tryz.f49) (by kernel_rfl) fun _=>rfl
 |n+1=>MKS n [(14,.jn [.r 20 .B] false),(122,.lp [.r 2 .I,.r 7 .I] 0 [.r 2 .I])] (.c (ayV n) (.c (agK n) .n)) @Tryz.func49
theorem za(n:Nat):ah Tryz.prog TE (V6 n):=MKS n [] (.c (agK n) .n) @Tryz.func22
theorem alO:∀n,ah Tryz.prog TE (alM n)
 |0=>iZ (fn:=Tryz.f27) (by kernel_rfl) fun _=>rfl
 |n+1=>MKS n [(58,.lp [.r 3 .I,.r 4 .I] 0 [.r 3 .I]),(1865,.jn [.r 5 .I] false),(3730,.jn [.r 25 .B] false)] (.c (alO n) (.c (SE n) .n)) @Tryz.func27
theorem CW(n:Nat):ah Tryz.prog TE (agm n):=MKS n [(3,.jn [.r 2 .B] false)] (.c (za n) (.c (alO n) .n)) @Tryz.func10
theorem Xq(n:Nat):ah Tryz.prog TE (XI n):=MKS n [(3,.jn [.r 2 .B] false)] .n @Tryz.func184
theorem ajH(n:Nat):ah Tryz.prog TE (Ux n):=MKS n [(26,.jn [.r 4 .B] false)] .n @Tryz.func185
theorem aoN(n:Nat):ah Tryz.prog TE (aaJ n):=MKS n [(3,.jn [.r 2 .B] false)] .n @Tryz.func268
theorem anh(n:Nat):ah Tryz.prog TE (XW n):=MKS n [(3,.jn [.r 2 .B] false)] (.c (Xq n) (.c (aoN n) .n)) @Tryz.func186
theorem qZ(n:Nat):ah Tryz.prog TE (MV n):=MKS n [(6,.jn [.r 20 .B] false),(58,.lp [.r 23 .I] 0 [])] (.c (Xq n) (.c (ajH n) (.c (anh n) .n))) @Tryz.func107
theorem EM(n:Nat):ah Tryz.prog TE (tF n):=MKS n [(3,.jn [.r 4 .B] false)] .n @Tryz.func319
theorem DY(n:Nat):ah Tryz.prog TE (sF n):=MKS n [] (.c (EM n) .n) @Tryz.func269
theorem Ii(n:Nat):ah Tryz.prog TE (GA n):=MKS n [] (.c (DY n) .n) @Tryz.func187
theorem acp(n:Nat):ah Tryz.prog TE (MC n):=MKS n [] (.c (Ii n) (.c (qZ n) .n)) @Tryz.func108
theorem He(n:Nat):ah Tryz.prog TE (GX n):=MKS n [(7,.jn [.r 4 .B] false)] .n @Tryz.func137
theorem fH:∀n,ah Tryz.prog TE (um n)∧ah Tryz.prog TE (qG n)∧ah Tryz.prog TE (uw n)∧ah Tryz.prog TE (rF n)
 |0=>⟨iZ (fn:=Tryz.f320) (by kernel_rfl) fun _=>rfl,iZ (fn:=Tryz.f270) (by kernel_rfl) fun _=>rfl,iZ (fn:=Tryz.f191) (by kernel_rfl) fun _=>rfl,iZ (fn:=Tryz.f274) (by kernel_rfl) fun _=>rfl⟩
 |n+1=>⟨MKS n [(26,.lp [.r 8 .I,.o 1 (.bx [(0,.lf (.n .i64))])] 0 [.o 1 (.bx [(0,.lf (.n .i64))])])] (.c (fH n).2.2.2 .n) @Tryz.func320,
  MKS n [] (.c (fH n).1 .n) @Tryz.func270,
  MKS n [(15,.jn [.r 9 .I] true),(62,.jn [.r 45 .B] false)] (.c (He n) (.c (qZ n) (.c (fH n).2.1 .n))) @Tryz.func191,
  MKS n [] (.c (fH n).2.2.1 .n) @Tryz.func274⟩
theorem Qn(n:Nat):ah Tryz.prog TE (uw n):=(fH n).2.2.1
theorem tJ(n:Nat):ah Tryz.prog TE (OD n):=MKS n [] (.c (Qn n) .n) @Tryz.func113
theorem eH:∀n,ah Tryz.prog TE (rU n)∧ah Tryz.prog TE (oK n)∧ah Tryz.prog TE (DK n)∧ah Tryz.prog TE (Ag n)
 |0=>⟨iZ (fn:=Tryz.f320) (by kernel_rfl) fun _=>rfl,iZ (fn:=Tryz.f270) (by kernel_rfl) fun _=>rfl,iZ (fn:=Tryz.f188) (by kernel_rfl) fun _=>rfl,iZ (fn:=Tryz.f271) (by kernel_rfl) fun _=>rfl⟩
 |n+1=>⟨MKS n [(26,.lp [.r 8 .I] 0 [])] (.c (eH n).2.2.2 .n) @Tryz.func320,
  MKS n [] (.c (eH n).1 .n) @Tryz.func270,
  MKS n [(3,.jn [.r 4 .B] false)] (.c (eH n).2.1 .n) @Tryz.func188,
  MKS n [] (.c (eH n).2.2.1 .n) @Tryz.func271⟩
theorem acw(n:Nat):ah Tryz.prog TE (DK n):=(eH n).2.2.1
theorem YK(n:Nat):ah Tryz.prog TE (Im n):=MKS n [(3,.jn [.r 2 .B] false)] (.c (tJ n) (.c (acw n) .n)) @Tryz.func109
theorem OQ:∀n,ah Tryz.prog TE (OJ n)
 |0=>iZ (fn:=Tryz.f193) (by kernel_rfl) fun _=>rfl
 |n+1=>MKS n [(3,.jn [.o 0 (.mp .b)] false),(30,.lp [.r 15 .I,.o 0 (.mp .b),.o 1 .dead] 0 [.o 0 (.mp .b),.o 1 .dead])] (.c (OQ n) .n) @Tryz.func193
theorem afr(n:Nat):ah Tryz.prog TE (OZ n):=MKS n [] .n @Tryz.func195
theorem DC(n:Nat):ah Tryz.prog TE (MP n):=MKS n [] (.c (tJ n) (.c (OQ n) (.c (afr n) (.c (Sr n) .n)))) @Tryz.func115
theorem TF(n:Nat):ah Tryz.prog TE (FM n):=MKS n [] .n @Tryz.func273
theorem L6(n:Nat):ah Tryz.prog TE (zL n):=MKS n [(26,.lp [.r 8 .I] 0 [])] (.c (TF n) .n) @Tryz.func196
theorem Il(n:Nat):ah Tryz.prog TE (wI n):=MKS n [] (.c (L6 n) .n) @Tryz.func272
theorem Yz(n:Nat):ah Tryz.prog TE (IC n):=MKS n [] (.c (Il n) .n) @Tryz.func190
theorem Yp(n:Nat):ah Tryz.prog TE (Iy n):=MKS n [] (.c (Yz n) .n) @Tryz.func189
theorem NI(n:Nat):ah Tryz.prog TE (AL n):=MKS n [(26,.lp [.r 8 .I] 0 [])] (.c (Yp n) .n) @Tryz.func192
theorem JI(n:Nat):ah Tryz.prog TE (xQ n):=MKS n [] (.c (NI n) .n) @Tryz.func114
theorem acZ(n:Nat):ah Tryz.prog TE (MS n):=MKS n [] (.c (DC n) (.c (JI n) .n)) @Tryz.func110
theorem acU(n:Nat):ah Tryz.prog TE (MB n):=MKS n [(58,.lp [.w (.own .s),.r 3 (.own 1),.r 11 .I] 0 [.w (.own .s),.r 3 (.own 1)]),(122,.lp [.w (.own .s),.r 3 (.own 2),.r 27 .I,.o 0 .dead,.o 1 .dead] 2 [.w (.own .s),.r 3 (.own 2),.o 0 .dead,.o 1 .dead])] .n @Tryz.func112
theorem acE(n:Nat):ah Tryz.prog TE (MK n):=MKS n [(58,.lp [.r 9 .I,.o 0 (.mp .b)] 0 [.o 0 .dead]),(7474,.jn [.r 15 .B] false)] .n @Tryz.func111
theorem Dt(n:Nat):ah Tryz.prog TE (Mw n):=MKS n [(6,.jn [.r 18 .B] false),(58,.lp [.r 22 .I] 0 []),(122,.lp [.r 51 .I] 4 []),(7474,.jn [.r 35 .B] false),(7833,.jn [.r 71 .B] false),(29902,.lp [.r 39 .I,.o 1 .dead] 2 [.o 1 .dead])] (.c (qZ n) (.c (acp n) (.c (YK n) (.c (acZ n) (.c (acU n) (.c (acE n) .n)))))) @Tryz.func53
theorem RY(n:Nat):ah Tryz.prog TE (QZ n):=MKS n [(58,.lp [.r 16 .I,.o 0 .dead] 0 [.o 0 .dead]),(3737,.jn [.r 48 .B] false)] .n @Tryz.func54
theorem ajc(n:Nat):ah Tryz.prog TE (UG n):=MKS n [] .n @Tryz.func197
theorem Ik(n:Nat):ah Tryz.prog TE (wH n):=MKS n [(26,.lp [.r 8 .I] 0 [])] (.c (ajc n) .n) @Tryz.func196
theorem ZT(n:Nat):ah Tryz.prog TE (Z4 n):=MKS n [] (.c (Ik n) .n) @Tryz.func117
theorem ahM(n:Nat):ah Tryz.prog TE (Q7 n):=MKS n [] .n @Tryz.func96
theorem acC(n:Nat):ah Tryz.prog TE (Mv n):=MKS n [] (.c (ahM n) .n) @Tryz.func46
theorem aoy(n:Nat):ah Tryz.prog TE (abx n):=MKS n [(58,.lp [.r 8 .I] 0 [])] .n @Tryz.func45
theorem kZ:∀n,ah Tryz.prog TE (qL n)∧ah Tryz.prog TE (JN n)
 |0=>⟨iZ (fn:=Tryz.f48) (by kernel_rfl) fun _=>rfl,iZ (fn:=Tryz.f19) (by kernel_rfl) fun _=>rfl⟩
 |n+1=>⟨MKS n [(26,.lp [.r 13 .I] 0 [])] (.c (kZ n).2 .n) @Tryz.func48,
  MKS n [] (.c (acC n) (.c (acL n) (.c (aoy n) (.c (kZ n).1 .n)))) @Tryz.func19⟩
theorem ow(n:Nat):ah Tryz.prog TE (JN n):=(kZ n).2
theorem KG:∀n,ah Tryz.prog TE (VZ n)∧ah Tryz.prog TE (Pp n)
 |0=>⟨iZ (fn:=Tryz.f56) (by kernel_rfl) fun _=>rfl,iZ (fn:=Tryz.f118) (by kernel_rfl) fun _=>rfl⟩
 |n+1=>⟨MKS n [(234,.jn [.r 8 .B] false),(942,.jn [.r 8 .B] false),(7549,.jn [.r 8 .B] false),(15102,.jn [.r 8 .B] false),(120828,.jn [.r 161 .B] false),(966634,.lp [.r 11 .I] 1 [])] (.c (ZT n) (.c (KG n).2 (.c (ow n) .n))) @Tryz.func56,
  MKS n [(26,.lp [.r 11 .I] 0 [])] (.c (KG n).1 .n) @Tryz.func118⟩
theorem agN(n:Nat):ah Tryz.prog TE (VZ n):=(KG n).1
end
section
open Go
def ZX(c:Carrier)(s:Int):Bool:=cond (decide (s<1)) true (cond (decide (8<s)) true (cond (decide (0<(c.elems.length:Int))) (s !=(c.elems.length:Int)) false))
def G9:List Carrier→List Int→Bool
 |c::cs,s::ss=>!(ZX c s)&&G9 cs ss
 |_,_=>true
def rP(env:Env)(sz:List Int):Bool:=!((sz.length:Int)!=(env.carriers.length:Int))&&G9 env.carriers sz
theorem F9{env:Env}{sz:List Int}(h:rP env sz=true):sz.length=env.carriers.length:=by
 unfold rP at h;simp only[qAb,qAS,bne_eq_false_iff_eq]at h;omega
def DR:List Val→Bool
 |a::b::r=>!(decide (0≤bK a b))&&DR (b::r)
 |_=>true
def aaN(v:Val):Bool:=v.kind==1&&(v.name==[]&&((v.kids.length:Int)==0&&(decide ((-1000000000)≤v.n)&&decide (v.n≤1000000000))))
def aas(v:Val):Bool:=v.kind==2&&(v.name==[]&&((v.kids.length:Int)==0&&(v.n==0 ||v.n==1)))
def ai5(env:Env)(sz:List Int)(nm:Str):Int:=(idx sz (gX (fun c=>c.name==nm) 0 env.carriers)).getD 0
def SX(env:Env)(sz:List Int)(nm:Str)(v:Val):Bool:=v.kind==3&&(v.name==nm&&((v.kids.length:Int)==0&&(decide (0≤v.n)&&decide (v.n<ai5 env sz nm))))
mutual
def hasB(env:Env)(sz:List Int):Ty→Val→Bool
 | .mk k nm ks,v=>cond (k==1) (aaN v) (cond (k==2) (aas v) (cond (k==3) (SX env sz nm v) (cond (k==4) (v.kind==4&&(v.n==0&&(v.name==[]&&((v.kids.length:Int)==2&&VA env sz ks v.kids))))
   ((v.kind==5&&(v.n==0&&(v.name==[]&&!(decide (256<(v.kids.length:Int))))))&&(avb env sz ks v.kids&&DR v.kids)))))
def VA(env:Env)(sz:List Int):List Ty→List Val→Bool
 |[],_=>true
 |t::ts,vs=>match vs with
  |[]=>true
  |v::vs=>hasB env sz t v&&VA env sz ts vs
def avb(env:Env)(sz:List Int):List Ty→List Val→Bool
 |[],_=>true
 |t::_,vs=>vs.all fun v=>hasB env sz t v
end
def Od(c:Int):Bool:=(decide (97≤c)&&decide (c≤122)) ||(decide (65≤c)&&decide (c≤90))
def aaR(c:Int):Bool:=decide (48≤c)&&decide (c≤57)
def Aq(c:Int):Bool:=Od c ||(aaR c ||c==95)
theorem UK(n:Nat)(c:Int):Ee n c=some (Od c):=by
 unfold Ee Od;cases decide (97≤c)<;>cases decide (c≤122)<;>cases decide (65≤c)<;>rfl
theorem abG(n:Nat)(c:Int):vB n c=some (Od c):=by
 unfold vB Od;cases decide (97≤c)<;>cases decide (c≤122)<;>cases decide (65≤c)<;>rfl
theorem an5(n:Nat)(c:Int):Np n c=some (aaR c):=by
 unfold Np aaR;cases decide (48≤c)<;>rfl
theorem as6(n:Nat)(c:Int):Bh n c=some (aaR c):=by
 unfold Bh aaR;cases decide (48≤c)<;>rfl
theorem akx(n:Nat)(c:Int):Ku n c=some (Aq c):=by
 unfold Ku Aq;rw[UK,an5];cases Od c<;>cases aaR c<;>rfl
theorem aqa(p0:Str)(l:List Str):Ev (fun n=>J9 n p0 l) (l.any fun x=>x==p0):=by
 unfold J9;have h:=qM l (fun n k i=>ap7 n p0 l k i) (fun _ x=>some (x==p0)) (fun x=>x==p0) true (fun n k i=>rfl) (fun x _=>Ev.ret _);refine Ev.bind h ?_;cases l.any fun x=>x==p0
 ·exact Ev.ret _
 ·exact Ev.ret _
def kws:List Str:=[[116,114,117,101],[102,97,108,115,101],[110,111,116],[111,114],[102,111,114,97,108,108],[101,120,105,115,116,115],[105,110],[110,111,116,105,110],[115,117,98],[109,111,100],[102,117,110],[99,97,114,100],[109,105,110],[109,97,120],[100,111,109],[114,97,110],[80,79,87],[105,110,116],[98,111,111,108],[115,101,116],[112,97,105,114]]
def kwB(s:Str):Bool:=kws.any fun x=>x==s
theorem anE(s:Str):Ev (fun n=>Ht n s) (kwB s):=by
 unfold Ht;exact Ev.bind (aqa s _) (Ev.ret _)
theorem chainB(a b:Bool):cond a (some a) (some b)=some (a ||b):=by cases a<;>rfl
theorem ah9(n:Nat)(s:Str):Gx n s=some (kwB s):=by
 unfold Gx;simp only[chainB,qAa];have h:∀b:Bool,cond b (some true) (some false)=some b:=fun b=>by cases b<;>rfl
 rw[h];simp only[kwB,kws,qCE,List.any_nil,qDm];simp only[BEq.comm (a:=s)]
def ident(s:Str):Bool:=match s with
 |[]=>false
 |c::cs=>decide (cs.length<16)&&(Od (c.toNat:Int)&&(!(kwB (c::cs))&&cs.all fun c=>Aq (c.toNat:Int)))
theorem qd{α:Type}(p:α→Bool)(l:List α):l.any (fun x=>!(p x))=!(l.all p):=by
 induction l with
 |nil=>rfl
 |cons x l ih=>simp[ih]
theorem pF(s:Str):Ev (fun n=>fK n s) (ident s):=by
 unfold fK;cases s with
 |nil=>exact Ev.of fun n=>rfl
 |cons c cs=>
  have hloop:Ev (fun n=>BI n (c::cs) n 0) (cond ((c::cs).any fun c=>!(Aq (c.toNat:Int))) (.rt false) (.nx ())):=by
   refine qM (c::cs) (fun n k i=>BI n (c::cs) k i) (fun _ x=>some (!(Aq (x.toNat:Int)))) (fun x=>!(Aq (x.toNat:Int))) false (fun n k i=>?_) (fun x _=>Ev.ret _);show cond _ _ _=_;congr 1;rw[O7];cases idx (c::cs) i with
   |none=>rfl
   |some x=>
    simp only[qAx,qAa,akx];rfl
  have hs0:nC (c::cs) 0=some (c.toNat:Int):=by rw[O7];rfl
  have hne:((c::cs)==([]:Str))=false:=by simp
  simp only[hne,cond_false,hs0,qAa,UK,ah9];by_cases hl:cs.length<16
  ·have h1:decide (16<((c::cs).length:Int))=false:=decide_eq_false (by simp;omega);simp only[h1,cond_false,ident,decide_eq_true hl,qAw];cases hlet:Od (c.toNat:Int)with
   |false=>exact Ev.ret _
   |true=>
    cases hk:kwB (c::cs)with
    |true=>exact Ev.ret _
    |false=>
     simp only[qAr,cond_false,qAa,qAw,qBd];refine Ev.bind hloop ?_;rw[qd];simp only[qBK,Aq,hlet,qCp,qAw];cases cs.all fun c=>Od (c.toNat:Int) ||(aaR (c.toNat:Int) ||(c.toNat:Int)==95)
     ·exact Ev.ret _
     ·exact Ev.ret _
  ·have h1:decide (16<((c::cs).length:Int))=true:=decide_eq_true (by simp;omega);simp only[h1,cond_true,qAa,ident,decide_eq_false hl,qBn];exact Ev.ret _
theorem oH(s:Str):Ev (fun n=>gZ n s) (ident s):=by
 unfold gZ;cases s with
 |nil=>exact Ev.of fun n=>rfl
 |cons c cs=>
  have hloop:Ev (fun n=>Fq n (c::cs) n 1) (cond (cs.any fun c=>!(Aq (c.toNat:Int))) (.rt false) (.nx ())):=by
   refine af3 (c::cs) (fun n k i=>Fq n (c::cs) k i) (fun _ x=>some (!(Aq (x.toNat:Int)))) (fun x=>!(Aq (x.toNat:Int))) false (fun n k i=>?_) (fun x _=>Ev.ret _) [c] cs rfl;show cond _ _ _=_;congr 1;rw[O7];cases idx (c::cs) i with
   |none=>rfl
   |some x=>
    simp only[qAx,qAa,abG,as6,Aq];cases Od (x.toNat:Int)<;>cases aaR (x.toNat:Int)<;>rfl
  have hs0:nC (c::cs) 0=some (c.toNat:Int):=by rw[O7];rfl
  have hne:decide (((c::cs).length:Int)<1)=false:=decide_eq_false (by simp;omega);simp only[hne,cond_false,hs0,qAa,abG];by_cases hl:cs.length<16
  ·have h1:decide (16<((c::cs).length:Int))=false:=decide_eq_false (by simp;omega);simp only[h1,cond_false,ident,decide_eq_true hl,qAw];cases hlet:Od (c.toNat:Int)with
   |false=>exact Ev.ret _
   |true=>
    simp only[qAr,cond_false,qAw];refine Ev.bind (a:=kwB (c::cs)) (Ev.bind (anE _) (Ev.ret _)) ?_;cases hk:kwB (c::cs)with
    |true=>exact Ev.ret _
    |false=>
     simp only[cond_false,qAw,qBd];refine Ev.bind hloop ?_;rw[qd];cases cs.all fun c=>Aq (c.toNat:Int)
     ·exact Ev.ret _
     ·exact Ev.ret _
  ·have h1:decide (16<((c::cs).length:Int))=true:=decide_eq_true (by simp;omega);simp only[h1,cond_true,qAa,ident,decide_eq_false hl,qBn];exact Ev.ret _
def abS(s:Str):Str:=if s.getLast? =some 39 then s.dropLast else s
theorem aeJ{α:Type}(s:List α)(k:Nat)(h:k≤s.length):jM s 0 (k:Int)=some (s.take k):=by
 unfold jM;rw[if_pos (by omega)];simp
theorem amT(n:Nat)(s:Str)(hs:s.length≤9223372036854775807):strings_TrimSuffix n s [39]=some (abS s):=by
 unfold strings_TrimSuffix mW ny;rcases qDH s with rfl|⟨t,c,rfl⟩
 ·rfl
 ·have hl:((t++[c]).length:Int) - (([39]:Str).length:Int)=(t.length:Int):=by simp
  have hd:decide ((([39]:Str).length:Int)≤((t++[c]).length:Int))=true:=decide_eq_true (by simp;omega);simp only[qDI]at hs⊢;rw[hl,hd,wrap64 (by omega) (by simp at hs;omega)];have h1:jM (t++[c]) (t.length:Int) ((t++[c]).length:Int)=some [c]:=by
   unfold jM;rw[if_pos (by simp;omega)];simp
  have h2:jM (t++[c]) 0 (t.length:Int)=some t:=by rw[aeJ _ _ (by simp)];simp
  simp only[cond_true,h1,h2,qAa];unfold abS;rw[qDO,qDP];by_cases hc:c=39
  ·subst hc;simp
  ·have:(([c]:Str)==[39])=false:=by simp[hc]
   rw[this,if_neg (by simpa using hc)];rfl
def named(s:Str):Bool:=ident (abS s)
theorem adb(s:Str)(hs:s.length≤9223372036854775807):Ev (fun n=>u6 n s) (named s):=by
 unfold u6;simp only[amT _ s hs,qAa];exact Ev.bind (pF _) (Ev.ret _)
theorem avu{s:Str}(h:ident s=true):∀c∈s,Aq (c.toNat:Int)=true:=by
 cases s with
 |nil=>cases h
 |cons c cs=>
  simp only[ident,qAb,decide_eq_true_eq,qAJ]at h;intro x hx;rcases qAh.1 hx with rfl|hx
  ·simp[Aq,h.2.1]
  ·exact h.2.2.2 x hx
theorem ac6(s:Str):Ev (fun n=>JO n s) (named s):=by
 unfold JO;have hp:Ev (fun n=>LA n s) (decide (s.getLast? =some 39)&&ident s.dropLast):=by
  unfold LA;rcases qDH s with rfl|⟨t,c,rfl⟩
  ·exact Ev.ret _
  ·simp only[qDI,qDO,qDP];cases t with
   |nil=>
    have h1:decide (1<(([]++[c]:Str).length:Int))=false:=rfl;simp only[h1,cond_false,qAa];have:ident ([]:Str)=false:=rfl;rw[this,qBO];exact Ev.ret _
   |cons d t=>
    have h1:decide (1<((d::t++[c]:Str).length:Int))=true:=decide_eq_true (by simp;omega);have hlen:(((d::t++[c]:Str).length:Int) - 1)=((d::t).length:Int):=by simp
    have h2:nC (d::t++[c]) (((d::t++[c]:Str).length:Int) - 1)=some (c.toNat:Int):=by
     rw[hlen,O7,show(d::t++[c]:Str)=(d::t)++c::[]from rfl,gV];rfl
    have h3:jM (d::t++[c]) 0 (((d::t++[c]:Str).length:Int) - 1)=some (d::t):=by rw[hlen,aeJ _ _ (by simp)];simp
    simp only[h1,cond_true,h2,h3,qAa];by_cases hc:c=39
    ·subst hc;simp only[show((((39:UInt8).toNat:Nat):Int)==39)=true from rfl,cond_true,decide_true,qAw];exact Ev.bind (Ev.bind (oH _) (Ev.ret _)) (Ev.ret _)
    ·have e:(((c.toNat:Nat):Int)==39)=false:=by
      apply beq_false_of_ne;intro h;apply hc;have:c.toNat=39:=by omega
      exact UInt8.toNat_inj.1 this
     rw[e];have e2:decide (some c=some (39:UInt8))=false:=decide_eq_false (by simpa using hc);simp only[cond_false,qAa,e2,qBn];exact Ev.ret _
 refine Ev.bind (a:=named s) ?_ (Ev.ret _);refine Ev.bind (oH s) ?_;unfold named abS;by_cases hq:s.getLast? =some 39
 ·have hi:ident s=false:=by
   cases h:ident s with
   |false=>rfl
   |true=>
    have:=avu h 39 (qDQ hq);cases this
  rw[hi,if_pos hq];rw[decide_eq_true hq,qAw]at hp;exact Ev.bind hp (Ev.ret _)
 ·rw[if_neg hq];rw[decide_eq_false hq,qBn]at hp;cases ident s
  ·exact Ev.bind hp (Ev.ret _)
  ·exact Ev.ret _
theorem Ty.ind{P:Ty→Prop}(h:∀k n ks,(∀t∈ks,P t)→P (.mk k n ks))(t:Ty):P t:=by
 match t with
 | .mk k n ks=>exact h k n ks fun u _=>Ty.ind h u
decreasing_by
 rename_i hu;have:=qCM hu
 grind
def iN(k:Int)(nm:Str)(len:Nat)(d:Int):Bool:=
 !(k==2&&decide (1<d))&&((((k==1 ||(k==2 ||k==3))&&len==0) ||((k==4&&len==2) ||(k==5&&len==1)))&&cond (k==3) (ident nm) (nm==[]))
mutual
def pf:Ty→Int→Int→Bool×Int
 | .mk k nm ks,d,c=>cond ((decide (c+1≤16)&&decide (d≤6))&&iN k nm ks.length d) (mX ks (d+1) (c+1)) (false,c+1)
def mX:List Ty→Int→Int→Bool×Int
 |[],_,c=>(true,c)
 |t::ts,d,c=>cond (pf t d c).1 (mX ts d (pf t d c).2) (false,(pf t d c).2)
end
mutual
theorem abR:∀(t:Ty) (d c:Int),(pf t d c).1=true→c<(pf t d c).2∧(pf t d c).2≤16
 | .mk k nm ks,d,c,h=>by
  simp only[pf]at h⊢;cases hb:((decide (c+1≤16)&&decide (d≤6))&&iN k nm ks.length d)with
  |false=>rw[hb]at h;cases h
  |true=>
   rw[hb]at h;simp only[cond_true]at h⊢;simp only[qAb,decide_eq_true_eq]at hb;have:=apS ks (d+1) (c+1) h;omega
theorem apS:∀(ts:List Ty) (d c:Int),(mX ts d c).1=true→c≤(mX ts d c).2∧(c≤16→(mX ts d c).2≤16)
 |[],_,c,_=>by simp[mX]
 |t::ts,d,c,h=>by
  simp only[mX]at h⊢;cases hb:(pf t d c).1 with
  |false=>rw[hb]at h;cases h
  |true=>
   rw[hb]at h;simp only[cond_true]at h⊢;have h1:=abR t d c hb;have h2:=apS ts d _ h;exact⟨by omega,fun _=>h2.2 h1.2⟩
end
theorem aBo(n:Nat)(c d:Int)(h0:0≤c)(h1:c≤16):ku n c 16 6 d=some (decide (c+1≤16)&&decide (d≤6),c+1):=by
 unfold ku;rw[wrap64 (by omega) (by omega)]
 grind
def aDY(t:Ty):Prop:=∀d c:Int,1≤d→d≤7→0≤c→c≤16→Ev (fun n=>gQ n c 16 6 t d (decide (1<d))) (pf t d c)
theorem auK(d:Int):∀(ts:List Ty) (i c:Int),0≤i→(∃j,0≤j∧(mX ts d c).1=false∧jZ (τ:=Int) (fun i x s=>cond (!(pf x d s).1) (.rt (i,(pf x d s).2)) (.nx (pf x d s).2)) (fun s=>s) i ts c=.rt (j,(mX ts d c).2))∨((mX ts d c).1=true∧jZ (ρ:=Int×Int) (fun i x s=>cond (!(pf x d s).1) (.rt (i,(pf x d s).2)) (.nx (pf x d s).2)) (fun s=>s) i ts c=.nx (mX ts d c).2)
 |[],i,c,_=>.inr ⟨rfl,rfl⟩
 |t::ts,i,c,hi=>by
  simp only[mX,jZ];cases hb:(pf t d c).1 with
  |false=>exact .inl ⟨i,hi,rfl,rfl⟩
  |true=>exact auK d ts (i+1) _ (by omega)
theorem axX(ts:List Ty)(h:∀t∈ts,aDY t)(d c:Int)(hd:1≤d)(hd6:d≤6)(h0:0≤c)(h1:c≤16):Ev (fun n=>eB n ts c 16 6 d) (!(mX ts (d+1) c).1,(mX ts (d+1) c).2):=by
 refine Ev.succ ?_;show Ev (fun n=>nY n _ _ _ _ ts c 16 6 d) _;unfold nY;have hloop:=NS ts (fun n k i s=>BK n (j6 n) (eB n) (gQ n) (eX n) ts 16 6 d k (i,s))
  (fun n i x s=>(eX n x s 16 6 d).bind fun x2=>cond x2.1 (some (.rt (i,x2.2))) (some (.nx x2.2))) (fun i x s=>cond (!(pf x (d+1) s).1) (.rt (i,(pf x (d+1) s).2)) (.nx (pf x (d+1) s).2)) (fun s=>s) (fun _ _ s=>0≤s∧s≤16)
  (fun n k i s=>by
   show cond _ _ _=_;congr 1;congr 1;funext x;dsimp only;cases eX n x s 16 6 d with
   |none=>rfl
   |some b=>obtain⟨b,e⟩:=b;cases b<;>rfl)
  (fun i x suf s hx hs=>⟨by
   have hfit:Ev (fun n=>eX n x s 16 6 d) (!(pf x (d+1) s).1,(pf x (d+1) s).2):=by
    refine Ev.succ ?_;show Ev (fun n=>oG n _ _ _ _ x s 16 6 d) _;unfold oG;have:=h x hx (d+1) s (by omega) (by omega) hs.1 hs.2;rw[decide_eq_true (show 1<d+1 by omega)]at this;rw[wrap64 (by omega) (by omega)];exact Ev.bind this (Ev.ret _)
   refine Ev.bind hfit ?_;cases(pf x (d+1) s).1
   ·exact Ev.ret _
   ·exact Ev.ret _,fun s' he=>by
    cases hb:(pf x (d+1) s).1 with
    |false=>rw[hb]at he;cases he
    |true=>
     rw[hb]at he;simp only[qAr,cond_false,LR.nx.injEq]at he;have:=abR x (d+1) s hb;omega⟩) (s0:=c) ⟨h0,h1⟩
 rcases auK (d+1) ts 0 c (qBJ _)with⟨j,hj,hf,hr⟩|⟨ht,hr⟩
 ·rw[hr]at hloop;refine Ev.bind (a:=(j,(mX ts (d+1) c).2)) (Ev.succ ?_) ?_
  ·show Ev (fun n=>jA n _ _ _ _ ts c 16 6 d) _;unfold jA;exact Ev.bind hloop (Ev.ret _)
  ·rw[hf];simp only[decide_eq_true hj];exact Ev.ret _
 ·rw[hr]at hloop;refine Ev.bind (a:=(-1,(mX ts (d+1) c).2)) (Ev.succ ?_) ?_
  ·show Ev (fun n=>jA n _ _ _ _ ts c 16 6 d) _;unfold jA;exact Ev.bind hloop (Ev.ret _)
  ·rw[ht];exact Ev.ret _
theorem apn(len:Nat)(m:Nat):(((len:Int)!=(m:Int)))=!(len==m):=by grind
theorem fits:∀t:Ty,aDY t:=Ty.ind fun k nm ks ih d c hd hd7 h0 h1=>by
 refine Ev.succ ?_;show Ev (fun n=>qN n _ _ _ _ c 16 6 (.mk k nm ks) d (decide (1<d))) _;unfold qN;simp only[aBo _ c d h0 h1,qAa,pf,Ty.kind,Ty.name,Ty.kids];cases hb:(decide (c+1≤16)&&decide (d≤6))with
 |false=>exact Ev.ret _
 |true=>
  simp only[qAb,decide_eq_true_eq]at hb;have hk:=axX ks ih d (c+1) hd hb.2 (by omega) hb.1;simp only[qAr,cond_false,qAw]
  -- the end: the number of kids, the name, the kids
  have hend:∀m:Nat,Ev (fun n=>(((cond ((ks.length:Int)!=(m:Int)) (some true) (cond (k !=3) (some (!(nm==([]:Str)))) (some false))):Option Bool).bind fun(s2:Bool)=>(cond s2 (some (false,c+1)) ((eB n ks (c+1) 16 6 d).bind fun(x2:Bool×Int)=>some ((!x2.1),x2.2)))))
    (cond ((ks.length==m)&&cond (k==3) true (nm==[])) (mX ks (d+1) (c+1)) (false,c+1)):=fun m=>by
   rw[apn];cases ks.length==m with
   |false=>exact Ev.ret _
   |true=>
    simp only[qAr,cond_false,qAw,bne];have hkids:Ev (fun n=>(eB n ks (c+1) 16 6 d).bind fun(x2:Bool×Int)=>some ((!x2.1),x2.2)) (mX ks (d+1) (c+1)):=by
     refine Ev.bind hk ?_;simp only[qCq];exact Ev.ret _
    cases k==3 with
    |true=>exact hkids
    |false=>
     simp only[qBd,cond_true,qAa,cond_false];cases nm==([]:Str)with
     |false=>exact Ev.ret _
     |true=>exact hkids
  by_cases e1:k=1
  ·subst e1;have:=hend 0;simpa[iN]using this
  by_cases e2:k=2
  ·subst e2;cases hf:decide (1<d)with
   |true=>
    have:iN 2 nm ks.length d=false:=by simp[iN,hf]
    simp only[this,cond_false];exact Ev.of fun n=>by simp
   |false=>
    have:=hend 0;simpa[iN,hf]using this
  by_cases e3:k=3
  ·subst e3;simp only[show((3:Int)==1)=false from rfl,show((3:Int)==2)=false from rfl,show((3:Int)==3)=true from rfl,cond_false,cond_true];refine Ev.bind (a:=cond (ident nm) (.nx 0) (.rt (false,c+1))) (Ev.bind (pF nm) ?_) ?_
   ·cases ident nm
    ·exact Ev.ret _
    ·exact Ev.ret _
   ·cases hi:ident nm with
    |false=>
     have:iN 3 nm ks.length d=false:=by simp[iN,hi]
     rw[this];exact Ev.ret _
    |true=>
     have:=hend 0;simpa[iN,hi]using this
  by_cases e4:k=4
  ·subst e4;have:=hend 2;simpa[iN]using this
  by_cases e5:k=5
  ·subst e5;have:=hend 1;simpa[iN]using this
  ·have:iN k nm ks.length d=false:=by simp[iN,e1,e2,e3,e4,e5]
   rw[this];refine Ev.of fun n=>?_;have b1:=beq_false_of_ne e1;have b2:=beq_false_of_ne e2;have b3:=beq_false_of_ne e3;have b4:=beq_false_of_ne e4;have b5:=beq_false_of_ne e5;simp only[b1,b2,b3,b4,b5,cond_false,qAa,LR.el]
def dI(t:Ty):Bool:=(pf t 1 0).1
theorem rD(t:Ty):Ev (fun n=>oC n t) (dI t):=by
 have:=fits t 1 0 (by omega) (by omega) (by omega) (by omega);exact Ev.bind this (Ev.ret _)
def pt(t:Ty)(d c:Int):Int:=cond (pf t d c).1 (pf t d c).2 (-1)
def aEN(t:Ty):Prop:=∀d c:Int,1≤d→d≤7→0≤c→c≤16→Ev (fun n=>yR n t d c) (pt t d c)
theorem atN(d:Int):∀(ts:List Ty) (c:Int),0≤c→gD (τ:=Int) (fun x s=>cond (decide (pt x d s<0)) (.rt (-1)) (.nx (pt x d s))) (fun s=>s) ts c=cond (mX ts d c).1 (.nx (mX ts d c).2) (.rt (-1))
 |[],c,_=>rfl
 |t::ts,c,h0=>by
  simp only[mX,gD];by_cases hb:(pf t d c).1=true
  ·have h1:=abR t d c hb;have h2:pt t d c=(pf t d c).2:=by simp only[pt,hb,cond_true]
   have h3:decide ((pf t d c).2<0)=false:=decide_eq_false (by omega);simp only[h2,h3,hb,cond_true,cond_false];exact atN d ts (pf t d c).2 (by omega)
  ·have hb':(pf t d c).1=false:=by simpa using hb
   have h2:pt t d c= -1:=by simp only[pt,hb',cond_false]
   have h3:decide (pt t d c<0)=true:=decide_eq_true (by omega);simp only[h3,hb',cond_true,cond_false]
theorem typed:∀t:Ty,aEN t:=Ty.ind fun k nm ks ih d c hd hd7 h0 h1=>by
 refine Ev.succ ?_;show Ev (fun n=>Mj n _ (.mk k nm ks) d c) _;unfold Mj;simp only[pt,pf,Ty.kind,Ty.name,Ty.kids];rw[wrap64 (by omega) (by omega)];by_cases hd6:d≤6
 case neg=>
  rw[decide_eq_true (show 6<d by omega),decide_eq_false hd6];simp only[qBO,qBn,cond_false];exact Ev.ret _
 by_cases hc:c+1≤16
 case neg=>
  rw[decide_eq_false (show ¬6<d by omega),decide_eq_true (show 16<c+1 by omega),decide_eq_false hc];simp only[qBn,cond_false,cond_true];exact Ev.ret _
 rw[decide_eq_false (show ¬6<d by omega),decide_eq_false (show ¬16<c+1 by omega),decide_eq_true hd6,decide_eq_true hc];simp only[cond_false,qAw];have hloop:=UD ks (fun n k' i s=>Ky n (yR n) (.mk k nm ks) d k' (s,i)) (fun n x s=>(yR n x (IntKind.wrap .i64 (d+1)) s).bind fun x2=>cond (decide (x2<0)) (some (.rt (-1))) (some (.nx x2)))
  (fun x s=>cond (decide (pt x (d+1) s<0)) (.rt (-1)) (.nx (pt x (d+1) s))) (fun s=>s) (fun _ s=>0≤s∧s≤16)
  (fun n k' i s=>by
   show cond _ _ _=_;congr 1;show(idx ks i).bind _=_;congr 1;funext x;dsimp only;cases yR n x (IntKind.wrap .i64 (d+1)) s with
   |none=>rfl
   |some b=>simp only[qAa];cases decide (b<0)<;>rfl)
  (fun x suf s hx hs=>⟨by
   rw[wrap64 (by omega) (by omega)];refine Ev.bind (ih x hx (d+1) s (by omega) (by omega) hs.1 hs.2) ?_;cases decide (pt x (d+1) s<0)
   ·exact Ev.ret _
   ·exact Ev.ret _,fun s' he=>by
    cases hb:decide (pt x (d+1) s<0)with
    |true=>rw[hb]at he;cases he
    |false=>
     rw[hb]at he;simp only[cond_false,LR.nx.injEq]at he;have hneg:¬pt x (d+1) s<0:=of_decide_eq_false hb;subst he;unfold pt at hneg⊢;cases hb2:(pf x (d+1) s).1 with
     |false=>rw[hb2]at hneg;simp at hneg
     |true=>have:=abR x (d+1) s hb2;simp only[cond_true];omega⟩) (s0:=c+1) ⟨by omega,hc⟩
 rw[atN _ _ _ (by omega)]at hloop;have hkids:Ev (fun n=>(Ky n (yR n) (.mk k nm ks) d n (c+1,0)).bind (LR.el (fun(s5:Int)=>some s5) (fun r=>some r))) (cond (mX ks (d+1) (c+1)).1 (mX ks (d+1) (c+1)).2 (-1)):=by
  refine Ev.bind hloop ?_;cases(mX ks (d+1) (c+1)).1
  ·exact Ev.ret _
  ·exact Ev.ret _
 have hend:∀m:Nat,Ev (fun n=>(((cond ((ks.length:Int)!=(m:Int)) (some true) (cond (k==3) ((gZ n nm).bind fun(x3:Bool)=>(cond (!x3) (some true) (cond (k !=3) (some (!(nm==([]:Str)))) (some false)))) (cond (k !=3) (some (!(nm==([]:Str)))) (some false)))):Option Bool).bind fun(s3:Bool)=>(cond s3 (some (-1)) ((Ky n (yR n) (.mk k nm ks) d n (c+1,0)).bind (LR.el (fun(s5:Int)=>some s5) (fun r=>some r))))))
   (cond ((ks.length==m)&&cond (k==3) (ident nm) (nm==[])) (cond (mX ks (d+1) (c+1)).1 (mX ks (d+1) (c+1)).2 (-1)) (-1)):=fun m=>by
  rw[apn];cases ks.length==m with
  |false=>exact Ev.ret _
  |true=>
   simp only[qAr,cond_false,qAw,bne];cases k==3 with
   |true=>
    simp only[cond_true,qAr,cond_false];refine Ev.bind (a:=!(ident nm)) (Ev.bind (oH nm) ?_) ?_
    ·cases ident nm
     ·exact Ev.ret _
     ·exact Ev.ret _
    ·cases ident nm
     ·exact Ev.ret _
     ·exact hkids
   |false=>
    simp only[cond_false,qBd,cond_true,qAa];cases nm==([]:Str)with
    |false=>exact Ev.ret _
    |true=>exact hkids
 have hpair:∀b:Bool,(cond (cond b (mX ks (d+1) (c+1)) (false,c+1)).1 (cond b (mX ks (d+1) (c+1)) (false,c+1)).2 (-1):Int)=cond b (cond (mX ks (d+1) (c+1)).1 (mX ks (d+1) (c+1)).2 (-1)) (-1):=fun b=>by cases b<;>rfl
 rw[hpair];by_cases e1:k=1
 ·subst e1;have:=hend 0;simpa[iN]using this
 by_cases e2:k=2
 ·subst e2;cases hf:decide (1<d)with
  |true=>
   have:iN 2 nm ks.length d=false:=by simp[iN,hf]
   rw[this];exact Ev.of fun n=>by simp
  |false=>
   have:=hend 0;simpa[iN,hf]using this
 by_cases e3:k=3
 ·subst e3;have:=hend 0;simpa[iN]using this
 by_cases e4:k=4
 ·subst e4;have:=hend 2;simpa[iN]using this
 by_cases e5:k=5
 ·subst e5;have:=hend 1;simpa[iN]using this
 ·have:iN k nm ks.length d=false:=by simp[iN,e1,e2,e3,e4,e5]
  rw[this];refine Ev.of fun n=>?_;have b1:=beq_false_of_ne e1;have b2:=beq_false_of_ne e2;have b3:=beq_false_of_ne e3;have b4:=beq_false_of_ne e4;have b5:=beq_false_of_ne e5;simp only[b1,b2,b3,b4,b5,cond_false,qAa,LR.el]
theorem AJ(t:Ty):Ev (fun n=>sZ n t) (dI t):=by
 refine Ev.bind (typed t 1 0 (by omega) (by omega) (by omega) (by omega)) ?_;unfold pt dI;cases hb:(pf t 1 0).1 with
 |false=>exact Ev.ret _
 |true=>
  have:=abR t 1 0 hb;simp only[cond_true];rw[decide_eq_true (by omega)];exact Ev.ret _
theorem Ze{α σ τ ρ:Type}(f:α→σ→σ)(fin:σ→τ):∀(l:List α) (s:σ),gD (ρ:=ρ) (fun x s=>.nx (f x s)) fin l s=.nx (fin (l.foldl (fun s x=>f x s) s))
 |[],_=>rfl
 |x::xs,s=>Ze f fin xs (f x s)
theorem qO{α σ τ ρ:Type}(l:List α)(L:Nat→Nat→Int→σ→Option (LR τ ρ))(step:Nat→α→σ→Option σ)(f:α→σ→σ)(fin:σ→τ)(I:List α→σ→Prop)
  (hL:∀n k i s,L n (k+1) i s=cond (decide (i<(l.length:Int))) ((idx l i).bind fun x=>(step n x s).bind fun s'=>L n k (i+1) s') (some (.nx (fin s))))
  (hI:∀x suf s,x∈l→I (x::suf) s→Ev (fun n=>step n x s) (f x s)∧I suf (f x s)) {s0:σ} (h0:I l s0):Ev (fun n=>L n n 0 s0) (.nx (fin (l.foldl (fun s x=>f x s) s0))):=by
 rw[←Ze f fin];refine UD l L (fun n x s=>(step n x s).bind fun s'=>some (.nx s')) (fun x s=>.nx (f x s)) fin I (fun n k i s=>?_) (fun x suf s hx hs=>?_) h0
 ·rw[hL];congr 1;congr 1;funext x
  grind
 ·obtain⟨h1,h2⟩:=hI x suf s hx hs;exact⟨Ev.bind h1 (Ev.ret _),fun s' h=>by cases h;exact h2⟩
theorem alc{α ρ:Type}(l:List α)(L:Nat→Nat→Int→Option (LR Unit ρ))(step:Nat→α→Option (LR Unit ρ))(p:α→Bool)(r:ρ)
  (hL:∀n k i,L n (k+1) i=cond (decide (i<(l.length:Int))) ((idx l i).bind fun x=>(step n x).bind (LR.el (fun _=>L n k (i+1)) (fun r=>some (.rt r)))) (some (.nx ())))
  (hp:∀x∈l,Ev (fun n=>step n x) (cond (p x) (.rt r) (.nx ()))):Ev (fun n=>L n n 0) (cond (l.any p) (.rt r) (.nx ())):=by
 have:=UD l (fun n k i (_:Unit)=>L n k i) (fun n x _=>step n x) (fun x _=>cond (p x) (.rt r) (.nx ())) (fun _=>()) (fun _ _=>True)
  (fun n k i s=>by rw[hL]) (fun x suf s hx _=>⟨hp x hx,fun _ _=>trivial⟩) (s0:=()) trivial
 rw[R4]at this;exact this
theorem rA{α:Type}{b:Nat}{l ys:List α}(h:l.length+ys.length≤1000000)(hb:b≤1000):app b l ys=some (l++ys):=by
 unfold app;have:=qDc h hb
 grind
theorem V7{α:Type}:∀(l s:List α),l.foldl (fun s x=>s++[x]) s=s++l
 |[],s=>by simp
 |x::l,s=>by simp[V7 l]
theorem KJ{α:Type}(k:Str):dO ([]:List (Str×α)) k=none:=rfl
theorem nk{α:Type}(p:Str×α)(m:List (Str×α))(k:Str):dO (p::m) k=if p.1==k then some p.2 else dO m k:=by
 unfold dO
 grind
theorem abf{α:Type}(m:List (Str×α))(k:Str)(v:α)(k':Str):dO (ko m k v) k'=if k==k' then some v else dO m k':=by
 induction m with
 |nil=>rw[ko,nk]
 |cons p m ih=>
  simp only[ko];by_cases h:(p.1==k)=true
  ·have e:p.1=k:=by simpa using h
   rw[if_pos h,nk,nk,e]
   grind
  ·rw[if_neg h,nk,ih,nk]
   grind
theorem BR{α:Type}(m:List (Str×α))(k:Str)(v:α):(ko m k v).length≤m.length+1:=by
 induction m with
 |nil=>simp[ko]
 |cons p m ih=>
  simp only[ko]
  grind
theorem J3{α:Type}{m:List (Str×α)}(h:m.length≤1000000)(k:Str)(v:α):wY m k v=some (ko m k v):=by
 unfold wY
 grind
theorem mem_keys{α:Type}(m:List (Str×α))(k:Str):k∈m.map (·.1)↔∃v,dO m k=some v:=by
 induction m with
 |nil=>simp[KJ]
 |cons p m ih=>
  rw[nk];by_cases h:(p.1==k)=true
  ·simp_all
  grind
def fB{α:Type}(l:List (Str×α))(m:List (Str×α)):List (Str×α):=l.foldl (fun m p=>ko m p.1 p.2) m
theorem Nf{α:Type}(l m:List (Str×α)):(fB l m).length≤m.length+l.length:=by
 induction l generalizing m with
 |nil=>simp[fB]
 |cons p l ih=>
  have h1:=ih (ko m p.1 p.2);have h2:=BR m p.1 p.2;simp only[fB,qBg,qAo]at h1⊢;omega
theorem Vp{α:Type}(l l' m:List (Str×α)):fB (l++l') m=fB l' (fB l m):=by simp[fB]
theorem avp{α:Type}(l m:List (Str×α))(k:Str):k∈(fB l m).map (·.1)↔k∈m.map (·.1)∨k∈l.map (·.1):=by
 induction l generalizing m with
 |nil=>simp[fB]
 |cons p l ih=>
  have h1:=ih (ko m p.1 p.2);have h2:k∈(ko m p.1 p.2).map (·.1)↔k∈m.map (·.1)∨k=p.1:=by
   rw[mem_keys,mem_keys,abf];by_cases h:(p.1==k)=true
   ·rw[if_pos h];have e:p.1=k:=by simpa using h
    exact⟨fun _=>.inr e.symm,fun _=>⟨_,rfl⟩⟩
   ·rw[if_neg h];have e:k≠p.1:=fun e=>h (by simp[e]);simp[e]
  rw[h2]at h1;simp only[fB,qBg,qAz,qAh]at h1⊢
  grind
theorem Oo{α:Type}(l m:List (Str×α))(k:Str)(hn:(l.map (·.1)).Nodup):dO (fB l m) k=(match dO l k with|some v=>some v|none=>dO m k):=by
 induction l generalizing m with
 |nil=>rfl
 |cons p l ih=>
  rw[qAz,qBX]at hn;have h1:=ih (ko m p.1 p.2) hn.2;simp only[fB,qBg]at h1⊢;rw[h1,abf,nk];by_cases h:(p.1==k)=true
  ·rw[if_pos h,if_pos h];have e:p.1=k:=by simpa using h
   have h3:dO l k=none:=by
    cases hm:dO l k with
    |none=>rfl
    |some v=>exact absurd ((mem_keys l k).2 ⟨v,hm⟩) (e▸hn.1)
   rw[h3]
  grind
theorem xU{α:Type}(l:List (Str×α))(k:Str)(v:α)(hn:(l.map (·.1)).Nodup):dO l k=some v↔(k,v)∈l:=by
 induction l with
 |nil=>simp[KJ]
 |cons p l ih=>
  rw[nk,qAh]
  grind
theorem ahC{α:Type}{l l':List (Str×α)}(hp:l.Perm l')(hn:(l.map (·.1)).Nodup)(k:Str):dO l k=dO l' k:=by
 have hn':(l'.map (·.1)).Nodup:=(hp.map _).nodup_iff.1 hn;cases h:dO l k with
 |some v=>
  rw[xU _ _ _ hn]at h;exact((xU _ _ _ hn').2 (hp.mem_iff.1 h)).symm
 |none=>
  cases h':dO l' k with
  |none=>rfl
  |some v=>
   rw[xU _ _ _ hn']at h';rw[(xU _ _ _ hn).2 (hp.mem_iff.2 h')]at h;cases h
mutual
def yE(q:Int):Ty→Bool
 | .mk k _ ks=>k==q ||aoe q ks
def aoe(q:Int):List Ty→Bool
 |[]=>false
 |t::ts=>yE q t ||aoe q ts
end
theorem ZR(q:Int):∀ts,aoe q ts=ts.any (yE q)
 |[]=>rfl
 |t::ts=>by simp[aoe,ZR q ts]
theorem asX(q:Int):∀t:Ty,Ev (fun n=>nN n t q) (yE q t):=Ty.ind fun k nm ks ih=>by
 refine Ev.succ ?_;show Ev (fun n=>yG n _ _ _ _ (.mk k nm ks) q) _;unfold yG;simp only[Ty.kind,Ty.kids,yE,ZR];have hk:Ev (fun n=>iq n ks q) (ks.any (yE q)):=by
  refine Ev.succ ?_;show Ev (fun n=>mV n _ _ _ _ ks q) _;unfold mV;refine Ev.bind (a:=gX (yE q) 0 ks) (Ev.succ ?_) ?_
  ·show Ev (fun n=>oz n _ _ _ _ ks q) _;unfold oz;refine tC ks (fun n k i=>zQ n _ _ _ (kW n) ks q k i) (fun n x=>kW n x q) (yE q) (fun n k i=>rfl) (fun x hx=>?_);refine Ev.succ ?_;show Ev (fun n=>wm n _ _ _ _ x q) _;unfold wm;exact Ev.bind (ih x hx) (Ev.ret _)
  ·rw[qE _ _ _ (qBJ _)];exact Ev.ret _
 cases hq:(k==q)
 ·exact Ev.bind (Ev.bind hk (Ev.ret _)) (Ev.ret _)
 ·exact Ev.bind (Ev.ret _) (Ev.ret _)
theorem aoq:∀t:Ty,Ev (fun n=>tK n t) (yE 2 t):=Ty.ind fun k nm ks ih=>by
 refine Ev.succ ?_;show Ev (fun n=>Dv n _ (.mk k nm ks)) _;unfold Dv;simp only[Ty.kind,yE,ZR];cases hq:(k==2)
 ·have h:=qM ks (fun n k' i=>QA n (tK n) (.mk k nm ks) k' i) (fun n x=>tK n x) (yE 2) true (fun n k i=>rfl) ih;simp only[cond_false,qCF];refine Ev.bind h ?_;cases ks.any (yE 2)
  ·exact Ev.ret _
  ·exact Ev.ret _
 ·exact Ev.ret _
mutual
def dK:Ty→List Str
 | .mk k nm ks=>cond (k==3) [nm] (iL ks)
def iL:List Ty→List Str
 |[]=>[]
 |t::ts=>dK t++iL ts
end
mutual
def Iw:Ty→Bool
 | .mk k _ ks=>(decide (ks.length≤2)&&(k !=3 ||ks.length==0))&&Vr ks
def Vr:List Ty→Bool
 |[]=>true
 |t::ts=>Iw t&&Vr ts
end
theorem Oh:∀{ts:List Ty},Vr ts=true→∀t∈ts,Iw t=true
 |[],_,t,h=>by cases h
 |u::ts,h,t,ht=>by
  simp only[Vr,qAb]at h;rcases qAh.1 ht with rfl|ht
  ·exact h.1
  ·exact Oh h.2 t ht
theorem ahX:∀{ts:List Ty} {t:Ty},t∈ts→(dK t).length≤(iL ts).length
 |[],t,h=>by cases h
 |u::ts,t,ht=>by
  simp only[iL,qAf];rcases qAh.1 ht with rfl|ht
  ·omega
  ·have:=ahX ht;omega
theorem aDs{k:Int}{nm:Str}{len:Nat}{d:Int}(h:iN k nm len d=true):len≤2∧(k=3→len=0):=by
 unfold iN at h
 grind
mutual
theorem aBI:∀(t:Ty) (d c:Int),(pf t d c).1=true→Iw t=true∧((dK t).length:Int)≤(pf t d c).2 - c
 | .mk k nm ks,d,c,h=>by
  simp only[pf]at h⊢;cases hb:((decide (c+1≤16)&&decide (d≤6))&&iN k nm ks.length d)with
  |false=>rw[hb]at h;cases h
  |true=>
   rw[hb]at h;simp only[cond_true]at h⊢;simp only[qAb]at hb;have hh:=aDs hb.2;have h1:=awT ks (d+1) (c+1) h;have h2:=apS ks (d+1) (c+1) h;constructor
   ·simp only[Iw,h1.1,qBE,qAb,decide_eq_true_eq,qBm,bne_iff_ne,beq_iff_eq];refine⟨hh.1,?_⟩;by_cases e:k=3
    ·exact .inr (hh.2 e)
    ·exact .inl e
   ·simp only[dK];cases k==3 with
    |true=>simp only[cond_true,qAL];omega
    |false=>simp only[cond_false];omega
theorem awT:∀(ts:List Ty) (d c:Int),(mX ts d c).1=true→Vr ts=true∧((iL ts).length:Int)≤(mX ts d c).2 - c
 |[],_,c,_=>by simp[mX,Vr,iL]
 |t::ts,d,c,h=>by
  simp only[mX]at h⊢;cases hb:(pf t d c).1 with
  |false=>rw[hb]at h;cases h
  |true=>
   rw[hb]at h;simp only[cond_true]at h⊢;have h1:=aBI t d c hb;have h2:=awT ts d _ h;simp only[Vr,h1.1,h2.1,qBE,iL,qAf];refine⟨trivial,?_⟩;omega
end
theorem aeb{t:Ty}(h:dI t=true):Iw t=true∧(dK t).length≤16:=by
 have h1:=aBI t 1 0 h;have h2:=abR t 1 0 h
 grind
theorem aj0:∀t:Ty,Iw t=true→(dK t).length≤16→Ev (fun n=>zT n t) (dK t):=Ty.ind fun k nm ks ih hok hlen=>by
 refine Ev.succ ?_;show Ev (fun n=>E5 n _ (.mk k nm ks)) _;unfold E5;simp only[Ty.kind,dK]at hlen⊢;simp only[Iw,qAb]at hok;cases hq:(k==3)with
 |true=>exact Ev.ret _
 |false=>
  rw[hq]at hlen;have h:=qO ks (fun n k' i s=>TY n (zT n) (.mk k nm ks) k' (s,i)) (fun n x s=>(zT n x).bind fun x2=>app 16 s x2) (fun x s=>s++dK x) (fun s=>s) (fun suf s=>s.length+(iL suf).length≤16)
   (fun n k' i s=>by
    show cond _ _ _=_;congr 1;congr 1;simp only[qAZ];rfl)
   (fun x suf s hx hs=>by
    simp only[iL,qAf]at hs;refine⟨Ev.bind (ih x hx (Oh hok.2 x hx) (by have:=ahX hx;omega)) ?_,?_⟩
    ·rw[rA (by omega) (by omega)];exact Ev.ret _
    ·simp;omega) (s0:=([]:List Str)) (by simpa using hlen)
  have hf:∀(ts:List Ty) (s:List Str),ts.foldl (fun s x=>s++dK x) s=s++iL ts:=by
   intro ts
   induction ts with
   |nil=>intro s;simp[iL]
   |cons t ts iht=>intro s;simp[iL,iht]
  rw[hf]at h;exact Ev.bind h (Ev.ret _)
theorem avo:∀t:Ty,Iw t=true→∀m:List (Str×Bool),m.length+(dK t).length≤1000→Ev (fun n=>oI n t m) (fB ((dK t).map fun s=>(s,true)) m):=Ty.ind fun k nm ks ih hok m hlen=>by
 refine Ev.succ ?_;show Ev (fun n=>Af n _ (.mk k nm ks) m) _;unfold Af;simp only[Ty.kind,Ty.name,dK]at hlen⊢;simp only[Iw,qAb,decide_eq_true_eq,qBm,beq_iff_eq,bne_iff_ne]at hok;have hloop:∀(m:List (Str×Bool)),m.length+(iL ks).length≤1000→Ev (fun n=>DF n (oI n) (.mk k nm ks) n (0,m)) (.nx (fB ((iL ks).map fun s=>(s,true)) m)):=fun m hm=>by
  have h:=qO ks (fun n k' i s=>DF n (oI n) (.mk k nm ks) k' (i,s)) (fun n x s=>oI n x s) (fun x s=>fB ((dK x).map fun s=>(s,true)) s) (fun s=>s) (fun suf s=>s.length+(iL suf).length≤1000)
   (fun n k' i s=>rfl)
   (fun x suf s hx hs=>by
    simp only[iL,qAf]at hs;refine⟨ih x hx (Oh hok.2 x hx) s (by omega),?_⟩;have:=Nf ((dK x).map fun s=>(s,true)) s;simp only[qAg]at this;omega) (s0:=m) hm
  have hf:∀(ts:List Ty) (s:List (Str×Bool)),ts.foldl (fun s x=>fB ((dK x).map fun s=>(s,true)) s) s=fB ((iL ts).map fun s=>(s,true)) s:=by
   intro ts
   induction ts with
   |nil=>intro s;rfl
   |cons t ts iht=>intro s;simp only[qBg,iL,qAX,Vp,iht]
  grind
 cases hq:(k==3)with
 |true=>
  have hk:k=3:=by simpa using hq
  have hks:ks=[]:=by
   rcases hok.1.2 with h|h
   ·exact absurd hk h
   ·exact qAI.1 h
  rw[hq]at hlen;simp only[cond_true,qAL]at hlen⊢;rw[J3 (by omega)];have hl:=BR m nm true;have:=hloop (ko m nm true) (by rw[hks];simp only[iL,qAC];omega);rw[hks]at this⊢;simp only[qAa];exact Ev.bind this (Ev.ret _)
 |false=>
  rw[hq]at hlen;simp only[cond_false,qAa]at hlen⊢;exact Ev.bind (hloop m hlen) (Ev.ret _)
theorem BN{t:Ty}(h:dI t=true):Ev (fun n=>uY n t) (((fB ((dK t).map fun s=>(s,true)) []).map (·.1)).mergeSort leS):=by
 refine Ev.bind (rD t) ?_;rw[h];obtain⟨h1,h2⟩:=aeb h;refine Ev.bind (avo t h1 [] (by simp;omega)) ?_;have:=Nf ((dK t).map fun s=>(s,true)) [];simp at this;unfold nH;rw[if_pos (by omega)];exact Ev.ret _
theorem Oy(t:Ty)(s:Str):s∈((fB ((dK t).map fun s=>(s,true)) []).map (·.1)).mergeSort leS↔s∈dK t:=by
 rw[List.mem_mergeSort,avp];simp
theorem asa:∀t:Ty,Iw t=true→Ev (fun n=>qg n t) t:=Ty.ind fun k nm ks ih hok=>by
 refine Ev.succ ?_;show Ev (fun n=>yI n _ (.mk k nm ks)) _;unfold yI;simp only[Iw,qAb]at hok;have h:=qO ks (fun n k' i s=>KX n (qg n) (.mk k nm ks) k' (i,s)) (fun n x s=>(qg n x).bind fun x2=>app 48 s [x2]) (fun x s=>s++[x]) (fun s=>s) (fun suf s=>s.length+suf.length≤2)
  (fun n k' i s=>by
   show cond _ _ _=_;congr 1;congr 1;simp only[qAZ];rfl)
  (fun x suf s hx hs=>by
   simp at hs;refine⟨Ev.bind (ih x hx (Oh hok.2 x hx)) ?_,?_⟩
   ·rw[rA (by simp;omega) (by omega)];exact Ev.ret _
   ·simp;omega) (s0:=([]:List Ty)) (by simpa using hok.1.1)
 rw[V7]at h;exact Ev.bind h (Ev.ret _)
theorem adY:∀t:Ty,Iw t=true→Ev (fun n=>vZ n t) t:=Ty.ind fun k nm ks ih hok=>by
 refine Ev.succ ?_;show Ev (fun n=>EN n _ (.mk k nm ks)) _;unfold EN;simp only[Iw,qAb]at hok;have h:=qO ks (fun n k' i s=>Vb n (vZ n) (.mk k nm ks) k' (i,s)) (fun n x s=>(vZ n x).bind fun x2=>app 48 s [x2]) (fun x s=>s++[x]) (fun s=>s) (fun suf s=>s.length+suf.length≤2)
  (fun n k' i s=>by
   show cond _ _ _=_;congr 1;congr 1;simp only[qAZ];rfl)
  (fun x suf s hx hs=>by
   simp at hs;refine⟨Ev.bind (ih x hx (Oh hok.2 x hx)) ?_,?_⟩
   ·rw[rA (by simp;omega) (by omega)];exact Ev.ret _
   ·simp;omega) (s0:=([]:List Ty)) (by simpa using hok.1.1)
 rw[V7]at h;exact Ev.bind h (Ev.ret _)
def dx(env:Env)(s:Str):Bool:=env.carriers.any fun c=>c.name==s
def Mf(c:Carrier):Bool:=ident c.name&&(!(decide (8<(c.elems.length:Int)))&&c.elems.all ident)
def Cc(env:Env)(d:Decl):Bool:=named d.name&&((dI d.ty&&!(yE 2 d.ty))&&(dK d.ty).all (dx env))
def Gy(env:Env):List Str:=(env.carriers.flatMap fun c=>c.name::c.elems)++env.names.map (·.name)
def names2(env:Env):List Str:=env.carriers.map (·.name)++(env.carriers.flatMap (·.elems)++env.names.map (·.name))
def oW:List Str→List Str→Bool
 |_,[]=>true
 |pre,x::xs=>!(pre.any (·==x))&&oW (pre++[x]) xs
theorem alW:∀(l pre:List Str),oW pre l=true↔l.Nodup∧∀x∈l,x∉pre
 |[],pre=>by simp[oW]
 |x::l,pre=>by
  simp only[oW,qAb,alW l,qAS,qBX,qAh,List.any_eq_false,beq_iff_eq,qAn,qCH,or_false];constructor
  ·rintro⟨h1,h2,h3⟩;refine⟨⟨fun hx=>(h3 x hx) (.inr rfl),h2⟩,?_⟩;rintro y (rfl|hy)
   ·exact fun hp=>h1 _ hp rfl
   ·exact fun hp=>h3 y hy (.inl hp)
  ·rintro⟨⟨h1,h2⟩,h3⟩;refine⟨fun y hy e=>h3 x (.inl rfl) (e▸hy),h2,fun y hy hp=>?_⟩;rcases hp with hp|rfl
   ·exact h3 y (.inr hy) hp
   ·exact h1 hy
theorem ad6(l:List Str):oW [] l=true↔l.Nodup:=by rw[alW];simp
theorem ay6(cs:List Carrier):(cs.flatMap fun c=>c.name::c.elems).Perm (cs.map (·.name)++cs.flatMap (·.elems)):=by
 induction cs with
 |nil=>simp
 |cons c cs ih=>
  grind
theorem Ns(env:Env):(Gy env).Perm (names2 env):=by
 unfold Gy names2;rw[←qAm];exact qCD _ (ay6 _)
theorem aD3(env:Env):oW [] (Gy env)=oW [] (names2 env):=by
 have h:(oW [] (Gy env)=true)↔(oW [] (names2 env)=true):=by rw[ad6,ad6];exact(Ns env).nodup_iff
 grind
def aW(env:Env):Bool:=!(decide (8<(env.carriers.length:Int)) ||decide (64<(env.names.length:Int)))&&(env.carriers.all Mf&&(env.names.all (Cc env)&&oW [] (names2 env)))
theorem anR(env:Env)(s:Str):Ev (fun n=>DT n env s) (dx env s):=by
 refine Ev.bind (a:=dx env s) ?_ (Ev.ret _);refine Ev.bind (tC env.carriers (fun n k i=>xW n env.carriers s k i) (fun _ x=>some (x.name==s)) (fun c=>c.name==s) (fun n k i=>rfl) (fun x _=>Ev.ret _)) ?_;rw[qE _ _ _ (qBJ _)];exact Ev.ret _
theorem ar9(env:Env){t:Ty}(h:dI t=true):Ev (fun n=>Aj n env t) ((dK t).all (dx env)):=by
 refine Ev.bind (BN h) ?_;generalize hl:((fB ((dK t).map fun s=>(s,true)) []).map (·.1)).mergeSort leS=l;have hm:∀s,s∈l↔s∈dK t:=fun s=>by rw[←hl];exact Oy t s
 have hf:=tC l (fun n k i=>zy n l env.carriers env.names k i) (fun n x=>DV n x env.carriers env.names) (fun s=>!(dx env s)) (fun n k i=>rfl) (fun x _=>by
  exact Ev.bind (anR env x) (Ev.ret _))
 refine Ev.bind (a:=l.any fun s=>!(dx env s)) (Ev.bind hf ?_) ?_
 ·rw[qE _ _ _ (qBJ _)];exact Ev.ret _
 ·rw[qd,qCq];have:l.all (dx env)=(dK t).all (dx env):=by
   grind
  rw[this];exact Ev.ret _
theorem JL(env:Env)(s:Str):Ev (fun n=>mH n env s) (gX (fun c=>c.name==s) 0 env.carriers):=by
 exact tC env.carriers (fun n k i=>MI n env s k i) (fun _ x=>some (x.name==s)) (fun c=>c.name==s) (fun n k i=>rfl) (fun x _=>Ev.ret _)
theorem alh(a:Int):decide (a<0)=!(decide (0≤a)):=by grind
theorem ae9(env:Env){t:Ty}(h:dI t=true):Ev (fun n=>Jp n env t) ((dK t).all (dx env)):=by
 obtain⟨h1,h2⟩:=aeb h;refine Ev.bind (aj0 t h1 h2) ?_;have hs:=qM (dK t) (fun n k i=>adi n env (dK t) k i) (fun n x=>(mH n env x).bind fun x3=>some (decide (x3<0))) (fun s=>!(dx env s)) false
  (fun n k i=>by
   show cond _ _ _=_;congr 1;congr 1;simp only[qAZ];rfl)
  (fun x _=>by
   refine Ev.bind (JL env x) ?_;rw[alh,qE _ _ _ (qBJ _)];exact Ev.ret _)
 rw[qd]at hs;refine Ev.bind hs ?_;cases(dK t).all (dx env)
 ·exact Ev.ret _
 ·exact Ev.ret _
theorem asD(env:Env)(h:(Gy env).length≤1000000):Ev (fun n=>Av n env) (Gy env):=by
 unfold Av;simp only[Gy,qAf,qAg]at h;have h1:=qO env.carriers (fun n k i s=>Lc n env k (s,i)) (fun n x s=>(app 16 s [x.name]).bind fun x4=>app 16 x4 x.elems) (fun x s=>s++(x.name::x.elems)) (fun s=>s) (fun suf s=>s.length+(suf.flatMap fun c=>c.name::c.elems).length≤1000000)
  (fun n k i s=>by
   show cond _ _ _=_;congr 1;show(idx env.carriers i).bind _=_;congr 1;funext x;simp only[qAZ];rfl)
  (fun x suf s hx hs=>by
   simp only[qBh,qAf,qAo]at hs;refine⟨?_,?_⟩
   ·rw[rA (by simp only[qAL];omega) (by omega),qAa,rA (by simp only[qAf,qAL];omega) (by omega)];rw[qAm];exact Ev.ret _
   ·simp only[qAf,qAo];omega) (s0:=([]:List Str)) (by simp only[qAC];omega)
 have hf1:∀(cs:List Carrier) (s:List Str),cs.foldl (fun s x=>s++(x.name::x.elems)) s=s++cs.flatMap fun c=>c.name::c.elems:=by
  intro cs
  induction cs with
  |nil=>intro s;simp
  |cons c cs ih=>intro s;rw[qBg,ih];simp
 rw[hf1,qAs]at h1;have h2:=qO env.names (fun n k i s=>Lb n env k (s,i)) (fun n x s=>app 16 s [x.name]) (fun x s=>s++[x.name]) (fun s=>s) (fun suf s=>s.length+suf.length≤1000000)
  (fun n k i s=>rfl)
  (fun x suf s hx hs=>by
   simp only[qAo]at hs;refine⟨?_,?_⟩
   ·rw[rA (by simp only[qAL];omega) (by omega)];exact Ev.ret _
   ·simp only[qAf,qAL];omega) (s0:=env.carriers.flatMap fun c=>c.name::c.elems) (by omega)
 have hf2:∀(cs:List Decl) (s:List Str),cs.foldl (fun s x=>s++[x.name]) s=s++cs.map (·.name):=by
  intro cs
  induction cs with
  |nil=>intro s;simp
  |cons c cs ih=>intro s;rw[qBg,ih];simp
 rw[hf2]at h2;exact Ev.bind h1 (Ev.bind h2 (Ev.ret _))
theorem asB(env:Env)(h:(names2 env).length≤1000000):Ev (fun n=>J6 n env) (names2 env):=by
 unfold J6;simp only[names2,qAf,qAg]at h;have h0:=qO env.carriers (fun n k i s=>Un n env k (s,i)) (fun n x s=>app 16 s [x.name]) (fun x s=>s++[x.name]) (fun s=>s) (fun suf s=>s.length+suf.length≤1000000)
  (fun n k i s=>rfl)
  (fun x suf s hx hs=>by
   simp only[qAo]at hs;refine⟨?_,?_⟩
   ·rw[rA (by simp only[qAL];omega) (by omega)];exact Ev.ret _
   ·simp only[qAf,qAL];omega) (s0:=([]:List Str)) (by simp only[qAC];omega)
 have hf0:∀(cs:List Carrier) (s:List Str),cs.foldl (fun s x=>s++[x.name]) s=s++cs.map (·.name):=by
  intro cs
  induction cs with
  |nil=>intro s;simp
  |cons c cs ih=>intro s;rw[qBg,ih];simp
 rw[hf0,qAs]at h0;have h1:=qO env.carriers (fun n k i s=>Tw n env k (s,i)) (fun n x s=>app 16 s x.elems) (fun x s=>s++x.elems) (fun s=>s) (fun suf s=>s.length+(suf.flatMap (·.elems)).length≤1000000)
  (fun n k i s=>rfl)
  (fun x suf s hx hs=>by
   simp only[qBh,qAf]at hs;refine⟨?_,?_⟩
   ·rw[rA (by omega) (by omega)];exact Ev.ret _
   ·simp only[qAf];omega) (s0:=env.carriers.map (·.name)) (by simp only[qAg];omega)
 have hf1:∀(cs:List Carrier) (s:List Str),cs.foldl (fun s x=>s++x.elems) s=s++cs.flatMap (·.elems):=by
  intro cs
  induction cs with
  |nil=>intro s;simp
  |cons c cs ih=>intro s;rw[qBg,ih];simp
 rw[hf1]at h1;have h2:=qO env.names (fun n k i s=>Uu n env k (s,i)) (fun n x s=>app 16 s [x.name]) (fun x s=>s++[x.name]) (fun s=>s) (fun suf s=>s.length+suf.length≤1000000)
  (fun n k i s=>rfl)
  (fun x suf s hx hs=>by
   simp only[qAo]at hs;refine⟨?_,?_⟩
   ·rw[rA (by simp only[qAL];omega) (by omega)];exact Ev.ret _
   ·simp only[qAf,qAL];omega) (s0:=env.carriers.map (·.name)++env.carriers.flatMap (·.elems)) (by simp only[qAf,qAg];omega)
 have hf2:∀(cs:List Decl) (s:List Str),cs.foldl (fun s x=>s++[x.name]) s=s++cs.map (·.name):=by
  intro cs
  induction cs with
  |nil=>intro s;simp
  |cons c cs ih=>intro s;rw[qBg,ih];simp
 rw[hf2,qAm]at h2;exact Ev.bind h0 (Ev.bind h1 (Ev.bind h2 (Ev.ret _)))
theorem asH(l:List Str)(hl:l.length≤1000000):Ev (fun n=>AX n l) (oW [] l):=by
 unfold AX;have h:=UD l (fun n k i s=>Lj n l k (i,s)) (fun n x s=>(mel (dO s x) (some false) (fun x3=>some x3):Option Bool).bind fun s3=>cond s3 (some (.rt false)) ((wY s x true).bind fun x2=>some (.nx x2))) (fun x s=>cond ((dO s x).getD false) (.rt false) (.nx (ko s x true))) (fun _=>())
  (fun suf s=>s.length+suf.length≤1000000)
  (fun n k i s=>by
   show cond _ _ _=_;congr 1;show(idx l i).bind _=_;congr 1;funext x;cases dO s x with
   |none=>simp only[mel,qAa,cond_false,qAZ];rfl
   |some b=>cases b<;>simp only[mel,qAa,cond_false,cond_true,qAZ];rfl)
  (fun x suf s hx hs=>by
   simp only[qAo]at hs;refine⟨?_,fun s' he=>?_⟩
   ·rw[J3 (by omega)];cases dO s x with
    |none=>exact Ev.ret _
    |some b=>cases b<;>exact Ev.ret _
   ·cases hb:(dO s x).getD false with
    |true=>rw[hb]at he;cases he
    |false=>
     rw[hb]at he;cases he;have:=BR s x true;omega) (s0:=([]:List (Str×Bool))) (by simpa using hl)
 have key:∀(suf pre:List Str) (s:List (Str×Bool)),(∀x,dO s x=if pre.any (·==x)then some true else none)→gD (τ:=Unit) (fun x s=>cond ((dO s x).getD false) (.rt false) (.nx (ko s x true))) (fun _=>()) suf s=cond (oW pre suf) (.nx ()) (.rt false):=by
  intro suf
  induction suf with
  |nil=>intro pre s _;rfl
  |cons x suf ih=>
   intro pre s hs;simp only[gD,oW];rw[hs x];cases hb:pre.any (·==x)with
   |true=>rfl
   |false=>
    simp only[qBN,if_false,qCs,cond_false,qBd,qAw];refine ih (pre++[x]) _ (fun y=>?_);rw[abf,hs y];simp only[List.any_append,qCE,List.any_nil,qDm];cases hy:(x==y)with
    |true=>simp
    |false=>simp
 rw[key l [] [] (fun x=>rfl)]at h;refine Ev.bind h ?_;cases oW [] l
 ·exact Ev.ret _
 ·exact Ev.ret _
theorem awD(l:List Str):Ev (fun n=>IX n l n 0) (cond (oW [] l) (.nx ()) (.rt false)):=by
 have h:=NS l (fun n k i (_:Unit)=>IX n l k i) (fun n i x _=>(jM l 0 i).bind fun x3=>(J9 n x x3).bind fun x4=>cond x4 (some (.rt false)) (some (.nx ()))) (fun i x _=>cond ((l.take i.toNat).any (·==x)) (.rt false) (.nx ())) (fun _=>())
  (fun i suf _=>∃pre,l=pre++suf∧i=(pre.length:Int))
  (fun n k i s=>by
   show cond _ _ _=_;congr 1;congr 1;funext x;cases jM l 0 i with
   |none=>rfl
   |some y=>
    simp;cases J9 n x y with
    |none=>rfl
    |some b=>cases b<;>rfl)
  (fun i x suf s hx hs=>by
   obtain⟨pre,hp,rfl⟩:=hs;refine⟨?_,fun _ _=>⟨pre++[x],by rw[hp];simp,by simp⟩⟩;rw[aeJ l pre.length (by rw[hp];simp)];simp;refine Ev.bind (aqa _ _) ?_;cases(l.take pre.length).any (·==x)
   ·exact Ev.ret _
   ·exact Ev.ret _) (s0:=()) ⟨[],rfl,rfl⟩
 have key:∀(suf pre:List Str),l=pre++suf→jZ (τ:=Unit) (fun i x _=>cond ((l.take i.toNat).any (·==x)) (.rt false) (.nx ())) (fun _=>()) (pre.length:Int) suf ()=cond (oW pre suf) (.nx ()) (.rt false):=by
  intro suf
  induction suf with
  |nil=>intro pre _;rfl
  |cons x suf ih=>
   intro pre hp;have ht:l.take pre.length=pre:=by rw[hp];simp
   simp only[jZ,oW]
   grind
 grind
theorem adE{env:Env}(h1:¬8<(env.carriers.length:Int))(h2:¬64<(env.names.length:Int))(h3:env.carriers.all Mf=true):(names2 env).length≤1000:=by
 have key:∀cs:List Carrier,cs.all Mf=true→(cs.flatMap (·.elems)).length≤8*cs.length:=by
  intro cs
  induction cs with
  |nil=>intro _;simp
  |cons c cs ih=>
   intro h;simp only[qBK,Mf]at h
   grind
 have:=key _ h3;simp only[names2,qAf,qAg];omega
theorem Bl(env:Env)(hs:∀d∈env.names,d.name.length≤9223372036854775807):Ev (fun n=>qp n env) (aW env):=by
 unfold qp;by_cases h1:8<(env.carriers.length:Int)
 ·have:aW env=false:=by simp only[aW,decide_eq_true h1,qCp,qAr,qBn]
  rw[this,decide_eq_true h1];exact Ev.ret _
 by_cases h2:64<(env.names.length:Int)
 ·have:aW env=false:=by simp only[aW,decide_eq_true h2,qDx,qAr,qBn]
  rw[this,decide_eq_true h2,decide_eq_false h1];exact Ev.ret _
 simp only[aW,decide_eq_false h1,decide_eq_false h2,qDm,qBd,qAw,cond_false,qAa];have hcar:=alc env.carriers (fun n k i=>LD n env k i) (fun n x=>((fK n x.name).bind fun x10=>cond (!x10) (some true) (some (decide (8<(x.elems.length:Int))))).bind fun s7=>cond s7 (some (.rt false)) ((vg n x n 0).bind (LR.el (fun _=>some (.nx ())) (fun r=>some (.rt r))))) (fun c=>!(Mf c)) false
  (fun n k i=>by
   show cond _ _ _=_;congr 1;congr 1;funext x;cases((fK n x.name).bind fun x10=>cond (!x10) (some true) (some (decide (8<(x.elems.length:Int)))))with
   |none=>rfl
   |some b=>
    cases b with
    |true=>rfl
    |false=>
     simp only[qAa,cond_false];cases vg n x n 0 with
     |none=>rfl
     |some r=>cases r<;>rfl)
  (fun c hc=>by
   refine Ev.bind (a:=!(ident c.name) ||decide (8<(c.elems.length:Int))) (Ev.bind (pF c.name) ?_) ?_
   ·cases ident c.name
    ·exact Ev.ret _
    ·exact Ev.ret _
   ·unfold Mf;cases ident c.name with
    |false=>exact Ev.ret _
    |true=>
     cases decide (8<(c.elems.length:Int))with
     |true=>exact Ev.ret _
     |false=>
      simp only[qAr,qCF,cond_false,qAw,qBd];have h:=qM c.elems (fun n k i=>vg n c k i) (fun n x=>(fK n x).bind fun x9=>some (!x9)) (fun s=>!(ident s)) false
       (fun n k i=>by
        show cond _ _ _=_;congr 1;congr 1;funext x;simp only[qAZ,qAa];rfl)
       (fun x _=>Ev.bind (pF x) (Ev.ret _))
      rw[qd]at h;refine Ev.bind h ?_;cases c.elems.all ident
      ·exact Ev.ret _
      ·exact Ev.ret _)
 rw[qd]at hcar;refine Ev.bind hcar ?_;cases hc:env.carriers.all Mf with
 |false=>exact Ev.ret _
 |true=>
  simp only[qAr,cond_false,qAw];have hdecl:=qM env.names (fun n k i=>Lp n env k i) (fun n x=>(u6 n x.name).bind fun x4=>cond (!x4) (some true) ((wL n x.ty).bind fun x5=>cond (!x5) (some true) ((Aj n env x.ty).bind fun x6=>some (!x6)))) (fun d=>!(Cc env d)) false
   (fun n k i=>rfl)
   (fun d hd=>by
    refine Ev.bind (adb d.name (hs d hd)) ?_;unfold Cc;cases named d.name with
    |false=>exact Ev.ret _
    |true=>
     simp only[qAr,cond_false,qAw];refine Ev.bind (a:=dI d.ty&&!(yE 2 d.ty)) ?_ ?_
     ·unfold wL;refine Ev.bind (a:=dI d.ty&&!(yE 2 d.ty)) (Ev.bind (rD d.ty) ?_) (Ev.ret _);cases dI d.ty with
      |false=>exact Ev.ret _
      |true=>exact Ev.bind (asX 2 d.ty) (Ev.ret _)
     ·cases hv:dI d.ty with
      |false=>exact Ev.ret _
      |true=>
       cases yE 2 d.ty with
       |true=>exact Ev.ret _
       |false=>exact Ev.bind (ar9 env hv) (Ev.ret _))
  rw[qd]at hdecl;refine Ev.bind hdecl ?_;cases hd:env.names.all (Cc env)with
  |false=>exact Ev.ret _
  |true=>
   simp only[qAr,cond_false,qAw];have hlen:=adE h1 h2 hc;have hlen1:(Gy env).length≤1000:=by rw[(Ns env).length_eq];exact hlen
   refine Ev.bind (asD env (by omega)) ?_;rw[←aD3];exact Ev.bind (asH _ (by omega)) (Ev.ret _)
theorem IU(env:Env):Ev (fun n=>zV n env) (aW env):=by
 unfold zV;by_cases h1:8<(env.carriers.length:Int)
 ·have:aW env=false:=by simp only[aW,decide_eq_true h1,qCp,qAr,qBn]
  rw[this,decide_eq_true h1];exact Ev.ret _
 by_cases h2:64<(env.names.length:Int)
 ·have:aW env=false:=by simp only[aW,decide_eq_true h2,qDx,qAr,qBn]
  rw[this,decide_eq_true h2,decide_eq_false h1];exact Ev.ret _
 simp only[aW,decide_eq_false h1,decide_eq_false h2,qDm,qBd,qAw,cond_false,qAa];have hcar:=alc env.carriers (fun n k i=>Tj n env k i) (fun n x=>((gZ n x.name).bind fun x10=>cond (!x10) (some true) (some (decide (8<(x.elems.length:Int))))).bind fun s7=>cond s7 (some (.rt false)) ((Cq n x n 0).bind (LR.el (fun _=>some (.nx ())) (fun r=>some (.rt r))))) (fun c=>!(Mf c)) false
  (fun n k i=>by
   show cond _ _ _=_;congr 1;congr 1;funext x;cases((gZ n x.name).bind fun x10=>cond (!x10) (some true) (some (decide (8<(x.elems.length:Int)))))with
   |none=>rfl
   |some b=>
    cases b with
    |true=>rfl
    |false=>
     simp only[qAa,cond_false];cases Cq n x n 0 with
     |none=>rfl
     |some r=>cases r<;>rfl)
  (fun c hc=>by
   refine Ev.bind (a:=!(ident c.name) ||decide (8<(c.elems.length:Int))) (Ev.bind (oH c.name) ?_) ?_
   ·cases ident c.name
    ·exact Ev.ret _
    ·exact Ev.ret _
   ·unfold Mf;cases ident c.name with
    |false=>exact Ev.ret _
    |true=>
     cases decide (8<(c.elems.length:Int))with
     |true=>exact Ev.ret _
     |false=>
      simp only[qAr,qCF,cond_false,qAw,qBd];have h:=qM c.elems (fun n k i=>Cq n c k i) (fun n x=>(gZ n x).bind fun x9=>some (!x9)) (fun s=>!(ident s)) false
       (fun n k i=>by
        show cond _ _ _=_;congr 1;congr 1;funext x;simp only[qAZ,qAa];rfl)
       (fun x _=>Ev.bind (oH x) (Ev.ret _))
      rw[qd]at h;refine Ev.bind h ?_;cases c.elems.all ident
      ·exact Ev.ret _
      ·exact Ev.ret _)
 rw[qd]at hcar;refine Ev.bind hcar ?_;cases hc:env.carriers.all Mf with
 |false=>exact Ev.ret _
 |true=>
  simp only[qAr,cond_false,qAw];have hdecl:=qM env.names (fun n k i=>Uh n env k i) (fun n x=>(JO n x.name).bind fun x6=>cond (!x6) (some true) ((sZ n x.ty).bind fun x7=>cond (!x7) (some true) ((tK n x.ty).bind fun x8=>cond x8 (some true) ((Jp n env x.ty).bind fun x9=>some (!x9))))) (fun d=>!(Cc env d)) false
   (fun n k i=>rfl)
   (fun d hd=>by
    refine Ev.bind (ac6 d.name) ?_;unfold Cc;cases named d.name with
    |false=>exact Ev.ret _
    |true=>
     simp only[qAr,cond_false,qAw];refine Ev.bind (AJ d.ty) ?_;cases hv:dI d.ty with
     |false=>exact Ev.ret _
     |true=>
      refine Ev.bind (aoq d.ty) ?_;cases yE 2 d.ty with
      |true=>exact Ev.ret _
      |false=>exact Ev.bind (ae9 env hv) (Ev.ret _))
  rw[qd]at hdecl;refine Ev.bind hdecl ?_;cases hd:env.names.all (Cc env)with
  |false=>exact Ev.ret _
  |true=>
   simp only[qAr,cond_false,qAw];have hlen:=adE h1 h2 hc;refine Ev.bind (asB env (by omega)) ?_;refine Ev.bind (awD _) ?_;cases oW [] (names2 env)
   ·exact Ev.ret _
   ·exact Ev.ret _
theorem afR(n:Nat)(p0:List Int)(k:Nat)(s:Int):Ew n p0 (k+1) s=Jy n p0 (Ew n p0 k) s:=rfl
theorem nZ(n:Nat)(qb9:(List Val)→(List Val)→Option Int)(qbx:Val→Val→Option Int)(p0:List Val)(p1:List Val)(k:Nat)(s:Int):lq n qb9 qbx p0 p1 (k+1) s=iU n qb9 qbx p0 p1 (lq n qb9 qbx p0 p1 k) s:=rfl
def WO:List Val→List Val→LR Unit Int
 |[],_=>.nx ()
 |_::_,[]=>.rt 1
 |a::asx,b::bs=>cond (bK a b !=0) (.rt (bK a b)) (WO asx bs)
theorem ame:∀(asx bs:List Val) (x y:Nat),x+bs.length=y+asx.length→(match WO asx bs with| .nx _=>cond (decide ((x:Int)<(y:Int))) (-1) 0| .rt r=>r)=dV asx bs
 |[],[],x,y,h=>by
  simp only[WO,dV];rw[decide_eq_false (by simp at h;omega)];rfl
 |[],b::bs,x,y,h=>by
  simp only[WO,dV];rw[decide_eq_true (by simp at h;omega)];rfl
 |a::asx,[],x,y,h=>rfl
 |a::asx,b::bs,x,y,h=>by
  simp only[WO,dV];cases hc:(bK a b !=0)with
  |true=>rfl
  |false=>exact ame asx bs x y (by simp at h;omega)
theorem ajL(n:Nat)(a b:Int):cmp_Compare_int n a b=some (jX a b):=by
 unfold cmp_Compare_int jX
 grind
theorem aCw(a b c:Int):Ev (fun n=>Vu n [a,b,c]) (cond (a !=0) a (cond (b !=0) b (cond (c !=0) c 0))):=by
 refine⟨4,fun n hn=>?_⟩;obtain⟨m,rfl⟩:∃m,n=m+4:=⟨n - 4,by omega⟩;show(Ew (m+4) [a,b,c] (m+4) 0).bind _=_;have i0:idx [a,b,c] 0=some a:=rfl;have i1:idx [a,b,c] (0+1)=some b:=rfl;have i2:idx [a,b,c] (0+1+1)=some c:=rfl;simp only[afR,Jy]
 grind
theorem aqx:∀(asx:List Val),(∀a∈asx,∀b,Ev (fun n=>dz n a b) (bK a b))→∀(bs pa pb:List Val),pa.length=pb.length→∃N,∀n,N≤n→∀k,asx.length+1≤k→lq n (kF n) (dz n) (pa++asx) (pb++bs) k (pa.length:Int)=some (WO asx bs)
 |[],_,bs,pa,pb,hp=>by
  refine⟨0,fun n _ k hk=>?_⟩;obtain⟨j,rfl⟩:∃j,k=j+1:=⟨k - 1,by simp at hk;omega⟩;rw[nZ];unfold iU;rw[decide_eq_false (by simp)];rfl
 |a::asx,H,[],pa,pb,hp=>by
  refine⟨0,fun n _ k hk=>?_⟩;obtain⟨j,rfl⟩:∃j,k=j+1:=⟨k - 1,by simp at hk;omega⟩;rw[nZ];unfold iU;rw[decide_eq_true (by simp;omega),gV];simp only[cond_true,qAa];rw[decide_eq_true (by simp;omega)];rfl
 |a::asx,H,b::bs,pa,pb,hp=>by
  obtain⟨N1,h1⟩:=H a (by simp) b;obtain⟨N2,h2⟩:=aqx asx (fun x hx=>H x (by simp[hx])) bs (pa++[a]) (pb++[b]) (by simp[hp]);refine⟨N1+N2,fun n hn k hk=>?_⟩;obtain⟨j,rfl⟩:∃j,k=j+1:=⟨k - 1,by simp at hk;omega⟩;have h1:dz n a b=_:=h1 n (by omega);have h2:=h2 n (by omega) j (by simp at hk;omega);rw[nZ];unfold iU;rw[decide_eq_true (by simp;omega),gV];simp only[cond_true,qAa];rw[decide_eq_false (by simp;omega),show(pa.length:Int)=(pb.length:Int) by rw[hp],gV];simp only[cond_false,qAa];rw[h1];simp only[qAa,WO];cases hc:(bK a b !=0)with
  |true=>rfl
  |false=>
   simp only[cond_false];rw[show(pb.length:Int)+1=((pa++[a]).length:Int) by simp[hp]];simpa using h2
theorem ai0(asx bs:List Val)(H:∀a∈asx,∀b,Ev (fun n=>dz n a b) (bK a b)):Ev (fun n=>kF n asx bs) (dV asx bs):=by
 obtain⟨N,h⟩:=aqx asx H bs [] [] rfl;refine Ev.succ ?_;refine⟨N+asx.length+1,fun n hn=>?_⟩;have:=h n (by omega) n (by omega);simp only[qAs,qAC]at this;show nW n _ _ asx bs=_;unfold nW;rw[show((0:Nat):Int)=0 from rfl]at this;have he:=ame asx bs asx.length bs.length (by omega)
 grind
theorem yO(a b:Val):Ev (fun n=>dz n a b) (bK a b):=by
 revert b
 induction a using Val.ind with
 |h k n s ks ih=>
  intro b;obtain⟨k',n',s',ks'⟩:=b;have hk:=ai0 ks ks' ih;refine Ev.succ ?_;show Ev (fun m=>Dr m _ _ (.mk k n s ks) (.mk k' n' s' ks')) _;unfold Dr;simp only[ajL,strings_Compare,qAa,Val.kind,Val.n,Val.name,Val.kids];refine Ev.bind (aCw _ _ _) ?_;simp only[bK];cases h1:(jX k k' !=0)with
  |true=>simp only[cond_true,h1];exact Ev.ret _
  |false=>
   cases h2:(jX n n' !=0)with
   |true=>simp only[cond_true,cond_false,h2];exact Ev.ret _
   |false=>
    cases h3:(Lib.compareBytes s s' !=0)with
    |true=>simp only[cond_true,cond_false,h3];exact Ev.ret _
    |false=>
     grind
end
end Abs
end Go.Proofs.YtneeginmfjageaaGreat

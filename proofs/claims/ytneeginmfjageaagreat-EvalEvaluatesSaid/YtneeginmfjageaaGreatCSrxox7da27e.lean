/-
  The contract of eval.sorted as an entry. Conditions: none.
-/
import Derived.KernelRfl
import Derived.Shelf.SlGeneric
import Derived.Shelf.Spec.SlicesGrow
import Derived.Ground.Names8Prog
import Derived.Test.YtneeginmfjageaaGreatProg
import Derived.Test.YtneeginmfjageaaGreatCSrtox5f2fff
set_option linter.all false
namespace Go.Proofs.YtneeginmfjageaaGreat
namespace Abs
def aGB:mQ Tryz.prog 61=true:=by kernel_rfl
def als(n:Nat)(p:Af)(r:Af)(h:kH n p=some r):eH Tryz.prog 61 [.slice (List.map bf p) .shared] [] (.slice (List.map bf r) .shared) []:=by
 unfold kH app at h;split at h;·rename_i b;simp only[qAb,qAo,Option.some.injEq]at h;subst h;exact aeT [] p .shared (by simpa using b.1)
 cases h
def Bl(n:Nat):ah Tryz.prog TE (apd n):=aj9 aGB Cs rfl λx y h b a=>by cases a;exact als n x y h
set_option maxRecDepth 100000
def OJ(n:Nat):ah Tryz.prog TE (O7 n):=MKS n [(6,.jn [.r 26 .B] false),(58,.lp [.r 31 .I] 0 [])] (.c (Fv n) (.c (UE n) (.c (ajL n) .n))) @Tryz.func31
def aud(n:Nat):ah Tryz.prog TE (afp n):=MKS n [(12,.jn [.r 4 .B] false),(51,.jn [.r 15 .B] false),(831,.jn [.r 31 .B] false),(1647,.jn [.r 15 .B] false)] .n @Tryz.func205
def aqm(n:Nat):ah Tryz.prog TE (acT n):=MKS n [] (.c (Jf n) (.c (tF n) .n)) @Tryz.func206
def aop(n:Nat):ah Tryz.prog TE (ZB n):=MKS n [(3,.jn [.r 2 .B] false)] .n @Tryz.func207
def ajZ(n:Nat):ah Tryz.prog TE (Ud n):=MKS n [(3,.jn [.r 2 .B] false)] .n @Tryz.func208
def ao3(n:Nat):ah Tryz.prog TE (Zx n):=MKS n [(7,.jn [.r 4 .B] true),(15,.jn [.r 4 .B] false),(28,.jn [.r 14 .B] false),(63,.jn [.r 2 .B] false),(227,.jn [.r 14 .B] false),(250,.jn [.r 2 .B] false)] (.c (aud n) (.c (aqm n) (.c (aop n) (.c (tF n) (.c (uP n) (.c (ajZ n) .n)))))) @Tryz.func138
def gT:∀n,ah Tryz.prog TE (vN n)/\ah Tryz.prog TE (sK n)/\ah Tryz.prog TE (BN n)/\ah Tryz.prog TE (yN n)|0=>⟨jR (fn:=Tryz.f209) Cs λ_=>rfl,jR (fn:=Tryz.f139) Cs λ_=>rfl,jR (fn:=Tryz.f67) Cs λ_=>rfl,jR (fn:=Tryz.f140) Cs λ_=>rfl⟩|n+1=>⟨MKS n [(26,.lp [.r 8 .I,.o 1 (.bx [(0,.lf (.n .i64))])] 0 [.o 1 (.bx [(0,.lf (.n .i64))])])] (.c (gT n).2.2.2 .n) @Tryz.func209,
  MKS n [] (.c (gT n).1 .n) @Tryz.func139,
  MKS n [(6,.jn [.r 15 .B,.o 0 (.bx [(0,.lf (.n .i64))])] false)] (.c (I8 n) (.c (ao3 n) (.c (gT n).2.1 .n))) @Tryz.func67,
  MKS n [] (.c (gT n).2.2.1 .n) @Tryz.func140⟩
def aa8(n:Nat):ah Tryz.prog TE (BN n):=(gT n).2.2.1
def Sr(n:Nat):ah Tryz.prog TE (acF n):=MKS n [] (.c (aa8 n) .n) @Tryz.func32
def kG(n:Nat):ah Tryz.prog TE (Wu n):=MKS n [] .n @Tryz.func149
def al3(n:Nat):ah Tryz.prog TE (XK n):=MKS n [(58,.lp [.r 15 .I,.o 1 (.mp .ty)] 0 [.o 1 (.mp .ty)]),(122,.lp [.r 42 .I,.o 1 (.mp .ty),.o 0 .dead] 4 [.o 1 (.mp .ty),.o 0 .dead]),(59806,.lp [.r 30 .I,.o 1 (.mp .ty),.o 2 .dead] 2 [.o 1 (.mp .ty),.o 2 .dead])] (.c (kG n) .n) @Tryz.func141
def El(n:Nat):ah Tryz.prog TE (Wq n):=MKS n [] .n @Tryz.func211
def aot(n:Nat):ah Tryz.prog TE (ZV n):=MKS n [(7,.fz [1,0])] .n @Tryz.func210
def HY(n:Nat):ah Tryz.prog TE (Sl n):=MKS n [] .n @Tryz.func212
def asO(n:Nat):ah Tryz.prog TE (ab9 n):=MKS n [(7,.fz [0])] .n @Tryz.func215
def aaJ(n:Nat):ah Tryz.prog TE (Kq n):=MKS n [(7,.fz [0])] .n @Tryz.func221
def ak5(n:Nat):ah Tryz.prog TE (VQ n):=MKS n [(7,.fz [0])] .n @Tryz.func223
def aeV(n:Nat):ah Tryz.prog TE (OQ n):=MKS n [(7,.fz [0])] .n @Tryz.func225
def aoD(n:Nat):ah Tryz.prog TE (Z6 n):=MKS n [(7,.fz [0])] .n @Tryz.func226
def ajQ(n:Nat):ah Tryz.prog TE (TL n):=MKS n [(7,.fz [0])] .n @Tryz.func226
def aoG(n:Nat):ah Tryz.prog TE (aaf n):=MKS n [(7,.fz [0])] .n @Tryz.func230
def akd(n:Nat):ah Tryz.prog TE (Uf n):=MKS n [(7,.fz [0])] .n @Tryz.func230
def amH(n:Nat):ah Tryz.prog TE (VP n):=MKS n [(7,.fz [0])] .n @Tryz.func215
def Wj(n:Nat):ah Tryz.prog TE (II n):=MKS n [(7,.fz [0])] .n @Tryz.func221
def W9(n:Nat):ah Tryz.prog TE (Ir n):=MKS n [(7,.fz [0])] .n @Tryz.func221
def ag4(n:Nat):ah Tryz.prog TE (Rp n):=MKS n [(7,.fz [0])] .n @Tryz.func223
def af9(n:Nat):ah Tryz.prog TE (Q0 n):=MKS n [(7,.fz [0])] .n @Tryz.func223
def WZ(n:Nat):ah Tryz.prog TE (Il n):=MKS n [(7,.fz [0])] .n @Tryz.func221
def Xg(n:Nat):ah Tryz.prog TE (Ih n):=MKS n [(7,.fz [0])] .n @Tryz.func221
def Xt(n:Nat):ah Tryz.prog TE (Ii n):=MKS n [(7,.fz [0])] .n @Tryz.func221
def V8(n:Nat):ah Tryz.prog TE (IJ n):=MKS n [(7,.fz [0])] .n @Tryz.func221
def Wo(n:Nat):ah Tryz.prog TE (Ij n):=MKS n [(7,.fz [0])] .n @Tryz.func221
def aoP(n:Nat):ah Tryz.prog TE (aan n):=MKS n [] (.c (El n) (.c (aot n) (.c (HY n) (.c (asO n) (.c (aaJ n) (.c (ak5 n) (.c (aeV n) (.c (aoD n) (.c (ajQ n) (.c (aoG n) (.c (kG n) (.c (akd n) (.c (amH n) (.c (Wj n) (.c (W9 n) (.c (ag4 n) (.c (af9 n) (.c (WZ n) (.c (Xg n) (.c (Xt n) (.c (V8 n) (.c (Wo n) .n)))))))))))))))))))))) @Tryz.func142
def aa0(n:Nat):ah Tryz.prog TE (Km n):=mk n [(58,.lp [.r 15 .I,.o 2 (.mp .b),.o 0 .dead] 0 [.o 2 (.mp .b),.o 0 .dead])] (e:=Km (n)) (inn:=λy=>bif List.isEmpty y.1 then some (y.2.1,y.2.2)else none) (.c (al3 n) (.c (aoP n) .n)) @Tryz.func68 Cs (by intro z y h;first|(cases h;rfl)|(let⟨a,b⟩:=(bD h).resolve_right λh=>(by cases h.2);cases b;exact Prod.ext (qCD.1 a).symm rfl)|(let⟨a,b⟩:=(bD h).resolve_right λh=>(by cases h.2);cases b;let⟨f,d⟩:=z;cases d;rfl;cases a)|(simp only[c]at h;split at h<;>cases h;simp_all)) λ_=>by kernel_rfl
def ahP(n:Nat):ah Tryz.prog TE (TT n):=MKS n [(3,.jn [.r 2 .B] false)] .n @Tryz.func144
def fK(n:Nat):ah Tryz.prog TE (ND n):=MKS n [] .n @Tryz.func145
def WK(n:Nat):ah Tryz.prog TE (IQ n):=MKS n [(12,.lp [.r 0 .Fd] 0 [])] .n @Tryz.func146
def QE(n:Nat):ah Tryz.prog TE (CP n):=MKS n [(3,.jn [.r 3 .B] false)] .n @Tryz.func244
def Lp(n:Nat):ah Tryz.prog TE (yP n):=MKS n [(26,.lp [.r 8 .I] 0 [])] (.c (QE n) .n) @Tryz.func192
def I6(n:Nat):ah Tryz.prog TE (vK n):=MKS n [] (.c (Lp n) .n) @Tryz.func114
def Vw(n:Nat):ah Tryz.prog TE (F3 n):=MKS n [] (.c (Fu n) (.c (I6 n) .n)) @Tryz.func147
def aha(n:Nat):ah Tryz.prog TE (QZ n):=MKS n [] (.c (uP n) .n) @Tryz.func148
def aaG(n:Nat):ah Tryz.prog TE (Kr n):=MKS n [] .n @Tryz.func300
def aeM(n:Nat):ah Tryz.prog TE (O5 n):=MKS n [] .n @Tryz.func294
def Qe(n:Nat):ah Tryz.prog TE (Ci n):=MKS n [(26,.lp [.r 8 .I] 0 [])] (.c (aeM n) .n) @Tryz.func320
def K6(n:Nat):ah Tryz.prog TE (zk n):=MKS n [] (.c (Qe n) .n) @Tryz.func270
def aic(n:Nat):ah Tryz.prog TE (Tt n):=MKS n [] (.c (K6 n) .n) @Tryz.func293
def Tk(n:Nat):ah Tryz.prog TE (UL n):=MKS n [] (.c (El n) .n) @Tryz.func227
def aeK(n:Nat):ah Tryz.prog TE (O6 n):=MKS n [] (.c (Tk n) .n) @Tryz.func301
def oP:∀n,ah Tryz.prog TE (vL n)/\ah Tryz.prog TE (K4 n)|0=>⟨jR (fn:=Tryz.f297) Cs λ_=>rfl,jR (fn:=Tryz.f220) Cs λ_=>rfl⟩|n+1=>⟨MKS n [(58,.lp [.r 17 .I] 0 [])] (.c (oP n).2 .n) @Tryz.func297,
  MKS n [(3,.jn [.r 4 .B] false)] (.c (oP n).1 .n) @Tryz.func220⟩
def qF(n:Nat):ah Tryz.prog TE (K4 n):=(oP n).2
def ahd(n:Nat):ah Tryz.prog TE (QG n):=MKS n [] (.c (qF n) .n) @Tryz.func295
def Pm(n:Nat):ah Tryz.prog TE (Ch n):=MKS n [(26,.lp [.r 8 .I] 0 [])] (.c (ahd n) .n) @Tryz.func320
def KE(n:Nat):ah Tryz.prog TE (ze n):=MKS n [] (.c (Pm n) .n) @Tryz.func270
def zh(n:Nat):ah Tryz.prog TE (Xb n):=MKS n [(3,.jn [.r 2 .B] false)] (.c (KE n) .n) @Tryz.func214
def akB(n:Nat):ah Tryz.prog TE (UK n):=MKS n [] (.c (El n) (.c (zh n) .n)) @Tryz.func213
def akD(n:Nat):ah Tryz.prog TE (TQ n):=MKS n [(7,.jn [.r 3 .B,.o 0 (.bx [(0,.k (.n .i64 2)),(1,.k (.s ([]:Str))),(2,.k (.l .ty))])] false)] (.c (fK n) (.c (El n) (.c (qF n) .n))) @Tryz.func229
def aeY(n:Nat):ah Tryz.prog TE (OU n):=MKS n [(3,.jn [.r 4 .B,.o 0 (.bx [(0,.k (.n .i64 2)),(1,.k (.s ([]:Str))),(2,.k (.l .ty))])] false)] (.c (Tk n) (.c (zh n) .n)) @Tryz.func302
def Um(n:Nat):ah Tryz.prog TE (UU n):=MKS n [] .n @Tryz.func232
def akC(n:Nat):ah Tryz.prog TE (Ue n):=MKS n [(3,.jn [.r 3 .B,.o 0 (.bx [(0,.k (.n .i64 4)),(1,.k (.s ([]:Str))),(2,.lf (.l .ty))])] false)] (.c (Um n) .n) @Tryz.func231
def akg(n:Nat):ah Tryz.prog TE (TY n):=MKS n [] (.c (kG n) (.c (zh n) .n)) @Tryz.func233
def TM(n:Nat):ah Tryz.prog TE (U0 n):=MKS n [] .n @Tryz.func228
def aeI(n:Nat):ah Tryz.prog TE (OY n):=MKS n [(3,.jn [.r 4 .B,.o 0 (.bx [(0,.lf (.n .i64)),(1,.lf .s),(2,.lf (.l .ty))])] false)] (.c (TM n) (.c (zh n) .n)) @Tryz.func302
def tu(n:Nat):ah Tryz.prog TE (O1 n):=MKS n [] (.c (Um n) (.c (kG n) .n)) @Tryz.func217
def agE(n:Nat):ah Tryz.prog TE (Sy n):=MKS n [(30,.jn [.r 28 .B] false)] (.c (fK n) (.c (tu n) .n)) @Tryz.func296
def kI(n:Nat):ah Tryz.prog TE (Wz n):=MKS n [(14,.jn [.r 17 .B] false)] (.c (fK n) .n) @Tryz.func219
def ajU(n:Nat):ah Tryz.prog TE (S9 n):=MKS n [] (.c (zh n) .n) @Tryz.func234
def SV(n:Nat):ah Tryz.prog TE (EZ n):=MKS n [] (.c (kI n) (.c (ajU n) .n)) @Tryz.func298
def ajO(n:Nat):ah Tryz.prog TE (UC n):=MKS n [(7,.jn [.r 7 .B,.o 2 (.bx [(0,.k (.n .i64 5)),(1,.k (.s ([]:Str))),(2,.lf (.l .ty))])] false)] (.c (kI n) (.c (tu n) (.c (qF n) .n))) @Tryz.func235
def SL(n:Nat):ah Tryz.prog TE (EM n):=MKS n [] (.c (kI n) (.c (ajO n) .n)) @Tryz.func298
def aj6(n:Nat):ah Tryz.prog TE (U2 n):=MKS n [(15,.jn [.r 3 .B,.o 0 (.bx [(0,.lf (.n .i64)),(1,.lf .s),(2,.lf (.l .ty))])] false)] (.c (fK n) (.c (kI n) (.c (qF n) .n))) @Tryz.func218
def aiH(n:Nat):ah Tryz.prog TE (SY n):=MKS n [(7,.jn [.r 7 .B,.o 2 (.bx [(0,.lf (.n .i64)),(1,.lf .s),(2,.lf (.l .ty))])] false)] (.c (fK n) (.c (qF n) .n)) @Tryz.func222
def SG(n:Nat):ah Tryz.prog TE (Fa n):=MKS n [] (.c (kI n) (.c (aiH n) .n)) @Tryz.func298
def ais(n:Nat):ah Tryz.prog TE (UM n):=MKS n [] (.c (tu n) (.c (kG n) .n)) @Tryz.func216
def ag8(n:Nat):ah Tryz.prog TE (Sw n):=MKS n [(30,.jn [.r 28 .B] false)] (.c (fK n) (.c (ais n) .n)) @Tryz.func296
def agj(n:Nat):ah Tryz.prog TE (QA n):=MKS n [] (.c (kG n) .n) @Tryz.func236
def adh(n:Nat):ah Tryz.prog TE (Np n):=MKS n [] (.c (fK n) (.c (agj n) .n)) @Tryz.func299
def agn(n:Nat):ah Tryz.prog TE (Q9 n):=MKS n [] (.c (HY n) .n) @Tryz.func237
def abI(n:Nat):ah Tryz.prog TE (NH n):=MKS n [] (.c (fK n) (.c (agn n) .n)) @Tryz.func299
def air(n:Nat):ah Tryz.prog TE (UD n):=MKS n [] (.c (HY n) .n) @Tryz.func224
def acA(n:Nat):ah Tryz.prog TE (NU n):=MKS n [] (.c (fK n) (.c (air n) .n)) @Tryz.func299
def agV(n:Nat):ah Tryz.prog TE (RZ n):=MKS n [] (.c (kG n) .n) @Tryz.func238
def SN(n:Nat):ah Tryz.prog TE (ES n):=MKS n [] (.c (kI n) (.c (agV n) .n)) @Tryz.func298
def ag6(n:Nat):ah Tryz.prog TE (QH n):=MKS n [] (.c (kG n) .n) @Tryz.func239
def SI(n:Nat):ah Tryz.prog TE (EO n):=MKS n [] (.c (kI n) (.c (ag6 n) .n)) @Tryz.func298
def agY(n:Nat):ah Tryz.prog TE (RN n):=MKS n [] (.c (tu n) .n) @Tryz.func240
def SE(n:Nat):ah Tryz.prog TE (ER n):=MKS n [] (.c (kI n) (.c (agY n) .n)) @Tryz.func298
def agM(n:Nat):ah Tryz.prog TE (RV n):=MKS n [(7,.jn [.r 7 .B,.o 2 (.bx [(0,.k (.n .i64 5)),(1,.k (.s ([]:Str))),(2,.lf (.l .ty))])] false)] (.c (fK n) (.c (kG n) (.c (qF n) .n))) @Tryz.func241
def SS(n:Nat):ah Tryz.prog TE (EX n):=MKS n [] (.c (kI n) (.c (agM n) .n)) @Tryz.func298
def agz(n:Nat):ah Tryz.prog TE (RY n):=MKS n [] (.c (qF n) .n) @Tryz.func242
def SF(n:Nat):ah Tryz.prog TE (EP n):=MKS n [] (.c (kI n) (.c (agz n) .n)) @Tryz.func298
def aeP(n:Nat):ah Tryz.prog TE (Pe n):=MKS n [] (.c (TM n) .n) @Tryz.func301
def agt(n:Nat):ah Tryz.prog TE (Ro n):=MKS n [(7,.jn [.r 3 .B,.o 0 (.bx [(0,.k (.n .i64 5)),(1,.k (.s ([]:Str))),(2,.lf (.l .ty))])] false)] (.c (fK n) (.c (tu n) .n)) @Tryz.func243
def tX:∀n,ah Tryz.prog TE (BO n)/\ah Tryz.prog TE (xq n)|0=>⟨jR (fn:=Tryz.f69) Cs λ_=>rfl,jR (fn:=Tryz.f143) Cs λ_=>rfl⟩|n+1=>⟨MKS n [(31,.jn [.r 18 (.ptr 8 0),.r 19 .B,.w (.box [.I,.S,.Lty])] false),(58,.lp [.r 2 .Fd,.w (.own .ty),.r 8 (.own 6),.r 23 .I,.o 0 (.bx [(59,.psl 7 1)]),.o 3 (.dead),.w (.arr .i)] 0 [.r 2 .Fd,.w (.own .ty),.r 8 (.own 6),.o 0 (.bx [(59,.psl 7 1)]),.o 3 (.dead),.w (.arr .i)]),(467,.jn [.r 2 .Fd,.w (.own .ty),.r 8 (.own 8),.o 0 (.bx [(59,.psl 9 1)]),.w (.arr .i),.o 6 .dead,.o 7 .dead] true),(981,.jn [.r 16 (.ptr 9 0),.r 17 .B,.w (.box [.I,.S,.Lty])] false),(29903,.jn [.r 48 .B] false),(478459,.fa [13])] (.c (tX n).2 (.c (ahP n) (.c (fK n) (.c (WK n) (.c (Vw n) (.c (kG n) (.c (aha n) (.c (aaG n) (.c (aic n) (.c (aeK n) (.c (akB n) (.c (akD n) (.c (aeY n) (.c (akC n) (.c (akg n) (.c (aeI n) (.c (agE n) (.c (SV n) (.c (SL n) (.c (aj6 n) (.c (SG n) (.c (ag8 n) (.c (adh n) (.c (abI n) (.c (acA n) (.c (SN n) (.c (SI n) (.c (SE n) (.c (SS n) (.c (SF n) (.c (aeP n) (.c (agt n) .n)))))))))))))))))))))))))))))))) @Tryz.func69,
  MKS n [(15,.jn [.o 0 (.bx [(59,.psl 8 1)]),.o 8 (.arr .i)] false),(122,.ca 8 0 59)] (.c (tX n).1 .n) @Tryz.func143⟩
def aaU(n:Nat):ah Tryz.prog TE (BO n):=(tX n).1
def OO:∀n,ah Tryz.prog TE (OG n)|0=>jR (fn:=Tryz.f71) Cs λ_=>rfl|n+1=>MKS n [(58,.lp [.r 14 .I,.o 2 (.bx [(2,.own 3)]),.w (.own .ty),.o 0 .dead] 0 [.o 2 (.bx [(2,.own 3)]),.w (.own .ty),.o 0 .dead])] (.c (OO n) .n) @Tryz.func71
def UO(n:Nat):ah Tryz.prog TE (TU n):=MKS n [(6,.jn [.r 15 .B] false),(500,.fz [7])] (.c (Fv n) (.c (Sr n) (.c (aa0 n) (.c (aaU n) (.c (abt n) (.c (OO n) .n)))))) @Tryz.func33
def aao(n:Nat):ah Tryz.prog TE (ZX n):=mk n [(58,.lp [.r 17 .I,.o 2 (.bx [(3,.mapr 1)]),.o 1 (.mp .val)] 0 [.o 2 (.bx [(3,.mapr 1)]),.o 1 (.mp .val)])] (e:=ZX (n)) (inn:=λy=>some (y.2.1,y.2.2.1,y.2.2.2.1,y.2.2.2.2,y.1)) .n @Tryz.func34 Cs (by intro z y h;first|(cases h;rfl)|(let⟨a,b⟩:=(bD h).resolve_right λh=>(by cases h.2);cases b;exact Prod.ext (qCD.1 a).symm rfl)|(let⟨a,b⟩:=(bD h).resolve_right λh=>(by cases h.2);cases b;let⟨f,d⟩:=z;cases d;rfl;cases a)|(simp only[c]at h;split at h<;>cases h;simp_all)) λ_=>by kernel_rfl
def JD(n:Nat):ah Tryz.prog TE (adb n):=MKS n [] .n @Tryz.func150
def EJ(n:Nat):ah Tryz.prog TE (Xv n):=mk n [(6,.jn [.r 8 .B] false)] (e:=Xv (n)) (inn:=some) .n @Tryz.func151
def MJ(n:Nat):ah Tryz.prog TE (af0 n):=MKS n [] .n @Tryz.func250
def U5(n:Nat):ah Tryz.prog TE (Ga n):=MKS n [] (.c (MJ n) .n) @Tryz.func249
def Ld(n:Nat):ah Tryz.prog TE (XG n):=MKS n [(3,.jn [.r 2 .B] false)] .n @Tryz.func251
def I5(n:Nat):ah Tryz.prog TE (vI n):=MKS n [(31,.jn [.r 6 .I,.r 7 .B] false),(60,.lp [.r 9 .I,.r 10 .I] 0 [.r 9 .I])] (.c (qx n) .n) @Tryz.func304
end Abs
end Go.Proofs.YtneeginmfjageaaGreat
namespace Go.Proofs
open Go.Shelf
def Tryz.FW:Go.Shelf.Ren:=⟨λ|4=>334|n=>n,λ|22=>27|25=>40|3=>3|4=>4|9=>9|20=>20|0=>0|n=>n,λ|n=>n⟩
set_option maxRecDepth 100000 in
def Tryz.auJ:Go.Proofs.Lays8.n4 Tryz.prog Tryz.FW:={
 mixed:=by kernel_rfl
 f4:=⟨Tryz.f334.name,by decide,Tryz.func334.trans (congrArg some (by kernel_rfl))⟩
 t0:=Tryz.underlying0
 a0:=Tryz.isAgg0
 z0:=Tryz.sizeOf0
 v0:=Tryz.zeroValue0
 t3:=Tryz.underlying3
 a3:=Tryz.isAgg3
 z3:=Tryz.sizeOf3
 v3:=Tryz.zeroValue3
 t4:=Tryz.underlying4
 a4:=Tryz.isAgg4
 z4:=Tryz.sizeOf4
 v4:=Tryz.zeroValue4
 t9:=Tryz.underlying9
 a9:=Tryz.isAgg9
 z9:=Tryz.sizeOf9
 v9:=Tryz.zeroValue9
 t20:=Tryz.underlying20
 a20:=Tryz.isAgg20
 z20:=Tryz.sizeOf20
 v20:=Tryz.zeroValue20
 t22:=Tryz.underlying27
 a22:=Tryz.isAgg27
 z22:=Tryz.sizeOf27
 v22:=Tryz.zeroValue27}
end Go.Proofs
namespace Go.Proofs.YtneeginmfjageaaGreat
namespace Abs
section
open Go Go.Proofs Go.Lib
def aFa:mQ Tryz.prog 334=true:=by kernel_rfl
def azi:(Tryz.prog.info? 40).map (λi=>(i.zero.map Value.cells,i.size,i.bytes))=some (some #[.int .i64 0,.int .i64 0,.string ⟨#[]⟩,.slice none 0 0],4,56):=by kernel_rfl
def ak4(k:Nat)(hk:k*56<=140737488355328):eH Tryz.prog 334 [.slice [] .nils,.int .i64 (k:Int)] [] (.slice [] (.tip 0 4)) [.tip 0]:=by
 intro Q ak w R B C M;have D:Q=[]:=qAD.1 B.klen;subst D
 match R,C with
 |[v,u],_=>
 have y:=M 0 cn;have N:=M 1 cn;simp only[List.getD,qAG,qBp,qAw]at y N;cases N with
 |int hw=>
 cases y with
 |@slice _ _ a p b E sz u' g1 g2 g3 g4 g5 g6 g7 S=>
 obtain⟨rfl,rfl⟩:=S;have m:∀{A:World} {s:aS} {T:bU} {a:Option Addr} {p:Nat},Tf A s a p 4 (.tip 0 4)->Rel A s T (.slice [] (.tip 0 4)) (.slice a 0 p):=λh=>
  .slice 0 0 4 (λ_ _=>undef) (λi f=>by simp at f) (λh=>absurd rfl h) (qAZ _) (qAZ _) (λi j f=>by simp at f) (λi j f=>by simp at f) (λi j f=>by simp at f) h
 by_cases y:k=0
 ·subst y;have:=Any8.slices_Grow_room Tryz.auJ none 0 0 0 w (qAd _) (qAZ _) (qAZ _) (qAd _);refine Calls.mono this ?_;rintro e A ⟨rfl,rfl⟩;refine⟨_,[none],rfl,?_,m ⟨rfl,.inl ⟨rfl,rfl⟩⟩⟩;have t:∀l b,at? [none] l≠some b:=λl b h=>by
   cases l with
   |zero=>cases h
   |succ l=>cases h
  refine⟨rfl,by simp,λl b h=>(by cases h),λl h=>?_,λl b h=>absurd h (t l b),λl b h=>absurd h (t l b),λl O b h=>absurd h (t l b),λl b h=>absurd h (t l b),λb _ _=>rfl,Evo.refl _ _,λb o h _=>?_,rfl,rfl,rfl⟩
  ·cases l with
   |zero=>rfl
   |succ l=>rfl
  ·rcases h with h|⟨l,h,_⟩
   ·exact .inl h
   ·exact absurd h (t l b)
 ·obtain⟨F,f⟩:∃F,Tryz.prog.info? 40=some F:=by
   have:=azi;cases h:Tryz.prog.info? 40 with
   |none=>rw[h]at this;cases this
   |some i=>exact⟨i,rfl⟩
  have g:=azi;rw[f]at g;simp only[qAx,Option.some.injEq,Prod.mk.injEq]at g;obtain⟨U,hs,V⟩:=g;obtain⟨z,H,I⟩:=qBs.1 U;have:=Any8.slices_Grow_grow Tryz.auJ F z f H Cl none 0 0 k [] w (qAd _) Cl (by rw[V];omega) Cl cn (λ_=>rfl) (λa h=>by cases h);refine Calls.mono this ?_;rintro e A ⟨rfl,rfl⟩;generalize hG:grownCap w (0+k) 0 (Tryz.FW.t 25)=G;have W:k<=G:=by have:=grownCap_ge w (0+k) 0 (Tryz.FW.t 25);omega
  generalize Y:(([]:List Value).toArray++Builtin.zeroCells z.cells (0+k - 0)++Builtin.zeroCells z.cells (G - (0+k)))=X;have Z:X.size=G*4:=by
   rw[<-Y];simp only[qCh,size_zeroCells,I];simp;omega
  generalize q:w.drew.alloc (.cells X (Tryz.FW.t 25))=J;have d:Go.RowKit.Below w.heap.size w J:=by
   rw[<-q];exact((qCO _ w).drew).alloc (qAd _) _
  have n:J.heap[w.heap.size]? =some (.cells X (Tryz.FW.t 25)):=by rw[<-q];exact World.alloc_heap_new w.drew _
  have hsz:J.heap.size=w.heap.size+1:=by rw[<-q];exact World.size_alloc _ _
  have r:∀l b,at? [some w.heap.size] l=some b->l=0/\b=w.heap.size:=λl b h=>by
   cases l with
   |zero=>cases h;exact⟨rfl,rfl⟩
   |succ l=>cases h
  refine⟨_,[some w.heap.size],rfl,?_,m ⟨rfl,.inr ⟨_,X,_,rfl,rfl,n,by omega⟩⟩⟩;refine⟨rfl,by simp,λl b h=>(by cases h),λl h=>?_,λl b h _=>?_,λl b h _=>.inl ?_,λl O b h h' _ _=>?_,λl b h=>?_,λb K _=>d.block b K,?_,λb o h x=>?_,d.os,d.tape,d.output⟩
  ·cases l with
   |zero=>cases h
   |succ l=>rfl
  ·obtain⟨rfl,rfl⟩:=r l b h;exact⟨X,_,n,by show 0<=X.size;omega⟩
  ·obtain⟨_,rfl⟩:=r l b h;exact qAd _
  ·obtain⟨rfl,_⟩:=r l b h;obtain⟨rfl,_⟩:=r O b h';rfl
  ·obtain⟨_,rfl⟩:=r l b h;omega
  ·exact⟨d.size,λb E u _ L=>by
    have x:=lt_of_cell L;simp only[World.cell?,d.block b x]at L|-;exact L,λb c e z P=>⟨c,by rw[d.block b (qBi.1 P).1];exact P,rfl⟩⟩
  ·rcases h with h|⟨l,h,_⟩
   ·exact .inl h
   ·obtain⟨_,rfl⟩:=r l b h;omega
def aa2(n:Nat):ah Tryz.prog TE (aaZ n):=aj9 aFa Cs rfl λ(x:Int) y h d b=>by
 cases b;have h:(bif decide ((0:Int)<=(x:Int))&&decide ((x:Int)*56<=140737488355328)then some ([]:Af)else none)=some y:=h;rcases bD h with⟨c,a⟩|⟨_,a⟩
 ·simp only[qAa,decide_eq_true_eq]at c;cases a;obtain⟨k,rfl⟩:∃k:Nat,x=(k:Int):=⟨x.toNat,by omega⟩;exact ak4 k Cl
 cases a
end
set_option maxRecDepth 100000
def oI(n:Nat):ah Tryz.prog TE (Tc n):=MKS n [] (.c (I5 n) .n) @Tryz.func253
def E9(n:Nat):ah Tryz.prog TE (Fb n):=MKS n [] (.c (oI n) .n) @Tryz.func252
def PD(n:Nat):ah Tryz.prog TE (Cr n):=MKS n [] (.c (oI n) .n) @Tryz.func255
def aoE(n:Nat):ah Tryz.prog TE (aac n):=MKS n [(58,.lp [.w (.own .val),.r 5 (.own 0),.r 10 .I] 0 [.w (.own .val),.r 5 (.own 0)]),(467,.jn [.w (.own .val),.r 5 (.own 1),.o 0 .dead] false)] (.c (PD n) .n) @Tryz.func156
def EY(n:Nat):ah Tryz.prog TE (EN n):=MKS n [] (.c (aoE n) .n) @Tryz.func254
def aiT(n:Nat):ah Tryz.prog TE (Uh n):=MKS n [(58,.lp [.w (.own .val),.r 5 (.own 0),.r 10 .I] 0 [.w (.own .val),.r 5 (.own 0)]),(467,.jn [.w (.own .val),.r 5 (.own 1),.o 0 .dead] false)] (.c (E9 n) .n) @Tryz.func156
def akq(n:Nat):ah Tryz.prog TE (Uo n):=MKS n [(58,.lp [.w (.own .val),.r 5 (.own 0),.r 10 .I] 0 [.w (.own .val),.r 5 (.own 0)]),(467,.jn [.w (.own .val),.r 5 (.own 1),.o 0 .dead] false)] (.c (EY n) .n) @Tryz.func156
def alR(n:Nat):ah Tryz.prog TE (WE n):=MKS n [] (.c (qx n) .n) @Tryz.func258
def aiZ(n:Nat):ah Tryz.prog TE (Ti n):=MKS n [(58,.lp [.w (.own .val),.r 5 (.own 1),.r 10 .I] 0 [.w (.own .val),.r 5 (.own 1)]),(467,.jn [.w (.own .val),.r 5 (.own 2),.o 1 .dead] false)] (.c (alR n) .n) @Tryz.func156
def aew(n:Nat):ah Tryz.prog TE (O8 n):=mk n [(14,.jn [.r 45 .B] false)] (e:=O8 (n)) (inn:=some) (.c (EJ n) .n) @Tryz.func259
def WY(n:Nat):ah Tryz.prog TE (Ip n):=MKS n [(58,.lp [.r 3 .I,.r 11 .I] 0 [.r 3 .I]),(250,.lp [.w (.own .val),.r 6 (.own 1),.r 27 .I,.o 0 .dead] 2 [.w (.own .val),.r 6 (.own 1),.o 0 .dead])] (.c (aa2 n) .n) @Tryz.func309
def AL(n:Nat):ah Tryz.prog TE (ZH n):=MKS n [] (.c (oI n) .n) @Tryz.func308
def akm(n:Nat):ah Tryz.prog TE (Uz n):=MKS n [(58,.lp [.w (.own .val),.r 5 (.own 1),.r 10 .I] 0 [.w (.own .val),.r 5 (.own 1)]),(467,.jn [.w (.own .val),.r 5 (.own 2),.o 1 .dead] false)] (.c (AL n) .n) @Tryz.func156
def apf(n:Nat):ah Tryz.prog TE (Z0 n):=MKS n [] (.c (AL n) .n) @Tryz.func310
def akG(n:Nat):ah Tryz.prog TE (Ub n):=MKS n [(58,.lp [.w (.own .val),.r 5 (.own 2),.r 10 .I] 0 [.w (.own .val),.r 5 (.own 2)]),(467,.jn [.w (.own .val),.r 5 (.own 3),.o 2 .dead] false)] (.c (apf n) .n) @Tryz.func156
def aom(n:Nat):ah Tryz.prog TE (Z7 n):=MKS n [] (.c (oI n) .n) @Tryz.func311
def aiE(n:Nat):ah Tryz.prog TE (Tv n):=MKS n [(58,.lp [.w (.own .val),.r 5 (.own 1),.r 10 .I] 0 [.w (.own .val),.r 5 (.own 1)]),(467,.jn [.w (.own .val),.r 5 (.own 2),.o 1 .dead] false)] (.c (aom n) .n) @Tryz.func156
def aae(n:Nat):ah Tryz.prog TE (ZO n):=MKS n [] (.c (oI n) .n) @Tryz.func307
def aow(n:Nat):ah Tryz.prog TE (aat n):=MKS n [] (.c (aae n) .n) @Tryz.func312
def akr(n:Nat):ah Tryz.prog TE (Uc n):=MKS n [(58,.lp [.w (.own .val),.r 5 (.own 2),.r 10 .I] 0 [.w (.own .val),.r 5 (.own 2)]),(467,.jn [.w (.own .val),.r 5 (.own 3),.o 2 .dead] false)] (.c (aow n) .n) @Tryz.func156
def aoQ(n:Nat):ah Tryz.prog TE (ZM n):=MKS n [] (.c (aae n) .n) @Tryz.func313
def ajR(n:Nat):ah Tryz.prog TE (Uw n):=MKS n [(58,.lp [.w (.own .val),.r 5 (.own 2),.r 10 .I] 0 [.w (.own .val),.r 5 (.own 2)]),(467,.jn [.w (.own .val),.r 5 (.own 3),.o 2 .dead] false)] (.c (aoQ n) .n) @Tryz.func156
def aor(n:Nat):ah Tryz.prog TE (aau n):=MKS n [] (.c (AL n) .n) @Tryz.func314
def agZ(n:Nat):ah Tryz.prog TE (Sc n):=MKS n [(58,.lp [.w (.own .val),.r 5 (.own 2),.r 10 .I] 0 [.w (.own .val),.r 5 (.own 2)]),(467,.jn [.w (.own .val),.r 5 (.own 3),.o 2 .dead] false)] (.c (aor n) .n) @Tryz.func156
def ao5(n:Nat):ah Tryz.prog TE (ZQ n):=MKS n [] (.c (AL n) .n) @Tryz.func315
def ags(n:Nat):ah Tryz.prog TE (RD n):=MKS n [(58,.lp [.w (.own .val),.r 5 (.own 2),.r 10 .I] 0 [.w (.own .val),.r 5 (.own 2)]),(467,.jn [.w (.own .val),.r 5 (.own 3),.o 2 .dead] false)] (.c (ao5 n) .n) @Tryz.func156
def Wd(n:Nat):ah Tryz.prog TE (Xw n):=MKS n [(58,.lp [.w (.own .vals),.r 3 (.own 1),.r 11 .I,.o 0 .dead] 0 [.w (.own .vals),.r 3 (.own 1),.o 0 .dead]),(14950,.lp [.w (.own .vals),.r 3 (.own 4),.r 18 .I,.o 1 .dead] 2 [.w (.own .vals),.r 3 (.own 4),.o 1 .dead])] (.c (SK n) (.c (Gb n) .n)) @Tryz.func316
def aoU(n:Nat):ah Tryz.prog TE (ZW n):=MKS n [] (.c (AL n) .n) @Tryz.func317
def aga(n:Nat):ah Tryz.prog TE (QW n):=MKS n [(58,.lp [.w (.own .val),.r 5 (.own 2),.r 10 .I] 0 [.w (.own .val),.r 5 (.own 2)]),(467,.jn [.w (.own .val),.r 5 (.own 3),.o 2 .dead] false)] (.c (aoU n) .n) @Tryz.func156
def afU(n:Nat):ah Tryz.prog TE (afK n):=MKS n [(3,.jn [.r 6 .B] false)] .n @Tryz.func337
def amA(n:Nat):ah Tryz.prog TE (Ww n):=MKS n [(122,.lp [.r 7 .I,.r 15 .I] 0 []),(15667,.jn [.r 9 .I] true),(125343,.jn [.r 50 .B] false),(2005423,.jn [.r 30 .B] false)] (.c (afU n) .n) @Tryz.func336
def Oi:∀n,ah Tryz.prog TE (aas n)|0=>jR (fn:=Tryz.f36) Cs λ_=>rfl|n+1=>MKS n [(31,.fz [2]),(58,.lp [.r 13 .I,.o 0 (.bx [(3,.psl 2 4)]),.o 2 (.arr .val)] 0 [.o 0 (.bx [(3,.psl 2 4)]),.o 2 (.arr .val)])] (.c (JN n) (.c (aaV n) (.c (Oi n) .n))) @Tryz.func36
def Xj:∀n,ah Tryz.prog TE (WJ n)|0=>jR (fn:=Tryz.f101) Cs λ_=>rfl|n+1=>MKS n [(58,.lp [.r 3 .I] 0 [])] (.c (Xj n) .n) @Tryz.func101
def aav:∀n,ah Tryz.prog TE (ZA n)|0=>jR (fn:=Tryz.f120) Cs λ_=>rfl|n+1=>MKS n [(122,.lp [.w (.own .s),.r 3 (.own 1),.r 4 .I] 0 [.w (.own .s),.r 3 (.own 1)])] (.c (aav n) .n) @Tryz.func120
def zZ(n:Nat):ah Tryz.prog TE (QX n):=MKS n [(26,.lp [.r 5 .I] 0 [])] .n @Tryz.func121
def Yk(n:Nat):ah Tryz.prog TE (aie n):=MKS n [(58,.lp [.r 6 .I,.o 1 .dead] 0 [.o 1 .dead])] (.c (aav n) (.c (zZ n) .n)) @Tryz.func58
def aoS(n:Nat):ah Tryz.prog TE (aai n):=MKS n [(58,.lp [.w (.own .s),.r 3 (.own 1),.r 4 .I] 0 [.w (.own .s),.r 3 (.own 1)]),(122,.lp [.w (.own .s),.r 3 (.own 2),.r 5 .I,.o 1 .dead] 2 [.w (.own .s),.r 3 (.own 2),.o 1 .dead]),(250,.lp [.w (.own .s),.r 3 (.own 3),.r 6 .I,.o 2 .dead] 4 [.w (.own .s),.r 3 (.own 3),.o 2 .dead])] .n @Tryz.func102
def OA(n:Nat):ah Tryz.prog TE (aaz n):=MKS n [(6,.jn [.r 19 .B] false),(58,.lp [.r 3 .I] 0 []),(122,.lp [.r 6 .I] 4 []),(506,.lp [.r 9 .I,.o 0 .dead] 6 [.o 0 .dead]),(3730,.jn [.r 41 .B] false),(3913,.jn [.r 89 .B] false),(14926,.lp [.r 5 .I] 2 [])] (.c (wL n) (.c (akn n) (.c (Ey n) (.c (Xj n) (.c (Yk n) (.c (aoS n) (.c (adK n) .n))))))) @Tryz.func50
def anO(n:Nat):ah Tryz.prog TE (anh n):=MKS n [(58,.lp [.r 5 .I] 0 []),(1865,.jn [.r 49 .B] false)] .n @Tryz.func59
def azB(n:Nat):ah Tryz.prog TE (an2 n):=MKS n [] .n @Tryz.func198
def QU:∀n,ah Tryz.prog TE (ac6 n)|0=>jR (fn:=Tryz.f122) Cs λ_=>rfl|n+1=>MKS n [(506,.lp [.r 5 .I] 0 []),(2024,.jn [.r 48 .B] false)] (.c (azB n) (.c (QU n) .n)) @Tryz.func122
def XU(n:Nat):ah Tryz.prog TE (ahW n):=mk n [] (e:=ahW (n)) (inn:=some) (.c (Bl n) .n) @Tryz.func157
def aag(n:Nat):ah Tryz.prog TE (ZU n):=MKS n [(30,.fz [1]),(58,.lp [.w (.arr .val),.r 3 (.psl 1 4),.r 11 .I,.o 0 .dead] 0 [.w (.arr .val),.r 3 (.psl 1 4),.o 0 .dead])] (.c (Bl n) .n) @Tryz.func305
def Lf(n:Nat):ah Tryz.prog TE (WC n):=MKS n [(30,.fz [1]),(58,.lp [.w (.arr .val),.r 3 (.psl 1 4),.r 11 .I,.o 0 .dead] 0 [.w (.arr .val),.r 3 (.psl 1 4),.o 0 .dead])] (.c (Bl n) .n) @Tryz.func306
def Ur(n:Nat):ah Tryz.prog TE (Ut n):=MKS n [(26,.lp [.r 15 .I] 0 []),(31,.jn [.r 8 .B] false),(1689,.jn [.r 34 .B] false),(7870,.jn [.r 8 .B] false),(31486,.jn [.r 8 .B] false)] (.c (oI n) (.c (aag n) (.c (Lf n) .n))) @Tryz.func257
def EL(n:Nat):ah Tryz.prog TE (EW n):=MKS n [] (.c (Ur n) .n) @Tryz.func256
def ah3(n:Nat):ah Tryz.prog TE (Tq n):=MKS n [(58,.lp [.w (.own .val),.r 5 (.own 0),.r 10 .I] 0 [.w (.own .val),.r 5 (.own 0)]),(467,.jn [.w (.own .val),.r 5 (.own 1),.o 0 .dead] false)] (.c (EL n) .n) @Tryz.func156
def Ns:∀n,ah Tryz.prog TE (M0 n)|0=>jR (fn:=Tryz.f338) Cs λ_=>rfl|n+1=>MKS n [(7,.jn [.o 3 (.bx [(0,.psl 6 4)]),.o 4 (.dead),.w (.arr .val)] false),(10,.jn [.o 3 (.bx [(0,.psl 6 4)]),.o 4 (.dead),.w (.arr .val)] false),(62,.lp [.r 75 .I,.o 3 (.bx [(0,.psl 7 4)]),.w (.arr .val),.o 6 .dead] 4 [.o 3 (.bx [(0,.psl 7 4)]),.w (.arr .val),.o 6 .dead]),(210,.lp [.r 38 .I,.o 3 (.bx [(0,.psl 6 4)]),.o 4 (.dead),.w (.arr .val)] 0 [.o 3 (.bx [(0,.psl 6 4)]),.o 4 (.dead),.w (.arr .val)]),(499,.jn [.o 3 (.bx [(0,.psl 8 4)]),.w (.arr .val),.o 7 .dead] false),(7986,.jn [.r 86 .B] false),(215450,.lp [.w (.own .val),.r 11 (.own 8),.r 46 .I,.o 3 (.bx [(0,.psl 6 4)]),.o 7 .dead] 2 [.w (.own .val),.r 11 (.own 8),.o 3 (.bx [(0,.psl 6 4)]),.o 7 .dead])] (.c (Ur n) (.c (Bl n) (.c (Wd n) (.c (Gb n) (.c (MJ n) (.c (Ns n) (.c (Lf n) (.c (oI n) .n)))))))) @Tryz.func338
def agQ(n:Nat):ah Tryz.prog TE (Sg n):=mk n [(15,.jn [.r 7 (.ptr 3 0),.w (.box [.psl 4 4]),.w (.arr .val)] false),(511,.fz [6])] (e:=Sg (n)) (inn:=some) (.c (amA n) (.c (afU n) (.c (Ns n) .n))) @Tryz.func318
def atW(n:Nat):ah Tryz.prog TE (ae4 n):=mk n [(63,.jn [.r 11 .Lval,.o 0 .dead,.o 1 .dead,.o 3 .dead,.o 4 .dead,.o 5 .dead,.o 6 .dead] true),(16214,.lp [.w (.own .val),.r 11 (.own 7),.r 12 .I,.o 0 .dead,.o 3 .dead,.o 4 .dead,.o 5 .dead,.o 6 .dead] 1 [.w (.own .val),.r 11 (.own 7),.o 0 .dead,.o 3 .dead,.o 4 .dead,.o 5 .dead,.o 6 .dead]),(4153334,.lp [.w (.own .val),.r 11 (.own 7),.r 86 .I,.o 0 .dead,.o 1 .dead,.o 3 .dead,.o 5 .dead,.o 6 .dead] 3 [.w (.own .val),.r 11 (.own 7),.o 0 .dead,.o 1 .dead,.o 3 .dead,.o 5 .dead,.o 6 .dead]),(33226746,.lp [.w (.own .val),.r 11 (.own 7),.r 118 .I,.o 0 .dead,.o 1 .dead,.o 3 .dead,.o 5 .dead,.o 6 .dead] 7 [.w (.own .val),.r 11 (.own 7),.o 0 .dead,.o 1 .dead,.o 3 .dead,.o 5 .dead,.o 6 .dead]),(1063253606,.lp [.w (.own .val),.r 11 (.own 9),.r 92 .I,.o 7 .dead] 5 [.w (.own .val),.r 11 (.own 9),.o 7 .dead]),(8506047078,.lp [.w (.own .val),.r 11 (.own 9),.r 124 .I,.o 7 .dead] 9 [.w (.own .val),.r 11 (.own 9),.o 7 .dead]),(68048376627,.jn [.w (.own .val),.r 11 (.own 10),.o 9 .dead] false),(68048388086,.lp [.w (.own .val),.r 11 (.own 7),.r 181 .I,.o 0 .dead,.o 1 .dead,.o 3 .dead,.o 4 .dead,.o 5 .dead,.o 6 .dead] 11 [.w (.own .val),.r 11 (.own 7),.o 0 .dead,.o 1 .dead,.o 3 .dead,.o 4 .dead,.o 5 .dead,.o 6 .dead]),(2177548419066,.lp [.w (.own .val),.r 11 (.own 7),.r 203 .I,.o 0 .dead,.o 1 .dead,.o 3 .dead,.o 4 .dead,.o 5 .dead,.o 6 .dead] 13 [.w (.own .val),.r 11 (.own 7),.o 0 .dead,.o 1 .dead,.o 3 .dead,.o 4 .dead,.o 5 .dead,.o 6 .dead])] (e:=ae4 (n)) (inn:=some) (.c (EJ n) (.c (WY n) (.c (akm n) (.c (akG n) (.c (MJ n) (.c (aag n) (.c (aiE n) (.c (qx n) (.c (akr n) (.c (ajR n) (.c (agZ n) (.c (ags n) (.c (Wd n) (.c (Lf n) (.c (aga n) (.c (agQ n) (.c (XU n) .n))))))))))))))))) @Tryz.func260
def asy(n:Nat):ah Tryz.prog TE (acP n):=mk n [(491,.jn [.r 105 .B] false)] (e:=acP (n)) (inn:=some) (.c (JD n) (.c (qx n) (.c (MJ n) (.c (aiZ n) (.c (aew n) (.c (EJ n) (.c (atW n) .n))))))) @Tryz.func158
def aT:∀n,ah Tryz.prog TE (uQ n)/\ah Tryz.prog TE (uX n)/\ah Tryz.prog TE (vg n)/\ah Tryz.prog TE (DL n)/\ah Tryz.prog TE (Ac n)/\ah Tryz.prog TE (nP n)/\ah Tryz.prog TE (xD n)|0=>⟨jR (fn:=Tryz.f155) Cs λ_=>rfl,jR (fn:=Tryz.f155) Cs λ_=>rfl,jR (fn:=Tryz.f155) Cs λ_=>rfl,jR (fn:=Tryz.f248) Cs λ_=>rfl,jR (fn:=Tryz.f154) Cs λ_=>rfl,jR (fn:=Tryz.f73) Cs λ_=>rfl,jR (fn:=Tryz.f153) Cs λ_=>rfl⟩|n+1=>⟨mk n [(107,.fz [5]),(127,.fz [3,5,7]),(245,.fz [5])] (e:=uQ (n+1)) (inn:=some) (.c (Ld n) (.c (aT n).2.2.2.2.2.1 .n)) @Tryz.func155,
  mk n [(107,.fz [5]),(127,.fz [3,5,7]),(245,.fz [5])] (e:=uX (n+1)) (inn:=some) (.c (Ld n) (.c (aT n).2.2.2.2.2.1 .n)) @Tryz.func155,
  mk n [(107,.fz [5]),(127,.fz [3,5,7]),(245,.fz [5])] (e:=vg (n+1)) (inn:=some) (.c (Ld n) (.c (aT n).2.2.2.2.2.1 .n)) @Tryz.func155,
  mk n [(31,.ca 12 0 4),(122,.lp [.r 31 .I,.o 0 (.bx [(4,.psl 12 5)]),.o 4 (.bx [(0,.psl 13 4)]),.o 5 (.dead),.o 6 (.bx [(0,.lf .b)]),.o 7 (.bx [(0,.lf .b)]),.w (.arr .bnd),.w (.arr .val),.o 9 .dead,.o 10 .dead,.o 11 .dead] 0 [.o 0 (.bx [(4,.psl 12 5)]),.o 4 (.bx [(0,.psl 13 4)]),.o 5 (.dead),.o 6 (.bx [(0,.lf .b)]),.o 7 (.bx [(0,.lf .b)]),.w (.arr .bnd),.w (.arr .val),.o 9 .dead,.o 10 .dead,.o 11 .dead])] (e:=DL (n+1)) (inn:=some) (.c (aT n).2.2.2.2.2.1 (.c (U5 n) .n)) @Tryz.func248,
  mk n [(7,.jn [.r 7 (.ptr 7 0),.w (.box [.psl 8 4]),.w (.arr .val)] false),(126,.fz [10])] (e:=Ac (n+1)) (inn:=some) (.c (aT n).2.2.2.1 (.c (JD n) (.c (XU n) .n))) @Tryz.func154,
  mk n [(26,.jn [.r 18 .B] false),(250,.lp [.r 123 .I,.o 0 (.bx [(4,.psl 6 5)]),.o 2 (.dead),.o 5 (.bx [(0,.lf (.n .i64)),(1,.lf (.n .i64)),(2,.lf .s),(3,.lf (.l .val)),(4,.lf (.n .i64)),(5,.lf (.n .i64)),(6,.lf .s),(7,.lf (.l .val))]),.w (.arr .bnd)] 3 [.o 0 (.bx [(4,.psl 6 5)]),.o 2 (.dead),.o 5 (.bx [(0,.lf (.n .i64)),(1,.lf (.n .i64)),(2,.lf .s),(3,.lf (.l .val)),(4,.lf (.n .i64)),(5,.lf (.n .i64)),(6,.lf .s),(7,.lf (.l .val))]),.w (.arr .bnd)]),(1962,.lp [.w (.own .val),.r 10 (.own 6),.r 106 .I,.o 0 (.bx [(4,.psl 7 5)]),.o 2 (.dead),.w (.arr .bnd),.o 3 .dead,.o 5 .dead] 1 [.w (.own .val),.r 10 (.own 6),.o 0 (.bx [(4,.psl 7 5)]),.o 2 (.dead),.w (.arr .bnd),.o 3 .dead,.o 5 .dead]),(2003,.jn [.o 0 (.bx [(4,.psl 7 5)]),.o 5 (.bx [(0,.lf (.n .i64)),(1,.lf (.n .i64)),(2,.lf .s),(3,.lf (.l .val)),(4,.lf (.n .i64)),(5,.lf (.n .i64)),(6,.lf .s),(7,.lf (.l .val))]),.w (.arr .bnd),.o 6 .dead] true),(6911,.jn [.r 39 .B] false),(27647,.jn [.r 46 .B] false),(110591,.jn [.r 54 .B] false)] (e:=nP (n+1)) (inn:=some) (.c (JD n) (.c (EJ n) (.c (Zp n) (.c (aT n).2.2.2.2.2.2 (.c (aT n).2.2.2.2.1 (.c (aT n).2.2.2.2.2.1 (.c (aT n).2.2.1 (.c (E9 n) (.c (aT n).2.1 (.c (EY n) (.c (aT n).1 (.c (EL n) (.c (aiT n) (.c (akq n) (.c (ah3 n) (.c (XU n) (.c (asy n) .n))))))))))))))))) @Tryz.func73,
  mk n [(28,.jn [.r 14 .B] false),(115,.jn [.r 23 .B] false),(230,.jn [.r 23 .B] false)] (e:=xD (n+1)) (inn:=some) (.c (aT n).2.2.2.2.2.1 (.c (JD n) .n)) @Tryz.func153⟩
def acv(n:Nat):ah Tryz.prog TE (nP n):=(aT n).2.2.2.2.2.1
def aHx:mQ Tryz.prog 35=true:=by kernel_rfl
section
variable (n:Nat)(tm:Tm)(cs:A7)(ds:A4)(sz:A2)(mp:List (Str×Val))(bs z:At)(c:Nat)(v:Int)(r:Val)
def h35:A0:=[.box [.lf (.l .car) cs,.lf (.l .dec) ds,.lf (.l .i) sz,.mapr 1,.psl 2 5 none],.mp .val mp,.arr .bnd bs]
def t35:As:=[.ptr 0 0,.lf (.t .tm) tm,.tup [],.tup [],.tup [],.tup [],.tup [],.tup [],.tup [],.tup [],.tup [],.tup [],.tup [],.tup [],.tup [],.tup []]
def tA:As:=[.ptr 0 0,.lf (.t .tm) tm,.ptr 3 0,.ptr 4 0,.ptr 5 0,.ptr 6 0,.tup [],.tup [],.tup [],.tup [],.tup [],.tup [],.tup [],.tup [],.tup [],.tup []]
def hA:A0:=[.box [.lf (.l .car) cs,.lf (.l .dec) ds,.lf (.l .i) sz,.mapr 1,.psl 2 5 none],.mp .val mp,.arr .bnd bs,.box [.ptr 0 0],.box [.lf (.t .tm) tm],.box [.lf (.n .i64) 0,.lf (.n .i64) 0,.lf .s [],.nils],.box [.lf (.n .i64) 0]]
def tB(x:TV):As:=[.ptr 0 0,.lf (.t .tm) tm,.ptr 3 0,.ptr 4 0,.ptr 5 0,.ptr 6 0,.ptr 7 0,.ptr 0 0,.ptr 0 0,.ptr 0 4,.psl 2 5 none,.nat bs.length,x,.tup [],.tup [],.tup []]
def hB:A0:=[.box [.lf (.l .car) cs,.lf (.l .dec) ds,.lf (.l .i) sz,.mapr 1,.psl 2 5 none],.mp .val mp,.arr .bnd bs,.box [.ptr 0 0],.box [.lf (.t .tm) tm],.box [.lf (.n .i64) 0,.lf (.n .i64) 0,.lf .s [],.nils],.box [.lf (.n .i64) 0],.box [.lf (.n .i64) (bs.length:Int)]]
def tP:As:=[.ptr 0 0,.lf (.t .tm) tm,.ptr 3 0,.ptr 4 0,.ptr 5 0,.ptr 6 0,.ptr 7 0,.ptr 0 0,.ptr 0 0,.ptr 0 4,.psl 2 5 none,.nat bs.length,.unk,.ptr 0 0,.lf (.t .tm) tm,.tup []]
noncomputable def agG(t:As)(h:A0):DS:=⟨t,h,[],[],[],[],[],[]⟩
noncomputable def Zz:Code:=bdy Tryz.f35
noncomputable def o35:List Oper:=opsOf (cL (cR (cR (cR Zz))))
def qA:exe ⟨τ,θ,n,Unit,[],3,TE,λ_ _=>none⟩ [] (λ_=>none) (cL Zz) (As×A0) 2 (agG (t35 tm) (h35 cs ds sz mp bs)) (λ_=>none) (λe s=>match e with| .normal=>some (s.t,s.h)|_=>none)=some (tA tm,hA tm cs ds sz mp bs):=by kernel_rfl
def qB:exe ⟨τ,θ,n,Unit,[],3,TE,λ_ _=>none⟩ [] (λ_=>none) (cL (cR Zz)) (As×A0) 6 (agG (tA tm) (hA tm cs ds sz mp bs)) (λ_=>none) (λe s=>match e with| .normal=>some (s.t,s.h)|_=>none)=some (tB tm bs (.tup []),hB tm cs ds sz mp bs):=by kernel_rfl
def qI:exe ⟨τ,θ,n,Val×Int×At,[],3,TE,λ_ _=>none⟩ [nP n] (yK τ 3 Tryz.f35.results.toList (jH n).rs some) (cR (cR (cR Zz))) (Val×Int×At) 15 (agG (tB tm bs .unk) (hB tm cs ds sz mp bs)) some
  (λe s=>match e with| .normal=>yK τ 3 Tryz.f35.results.toList (jH n).rs some s|_=>none)=
  (aM n cs ds sz mp bs tm).bind (PZ.el (λx=>some (x.1,0,x.2)) λ_ _=>none):=by kernel_rfl
def qP:Jk (agG (tB tm bs .unk) (hB tm cs ds sz mp bs)).h 0 (λa=>XQ τ θ [nP n] (λv s=>some (v,s)) o35 o35 a [] {agG (tB tm bs .unk) (hB tm cs ds sz mp bs)with h:=(agG (tB tm bs .unk) (hB tm cs ds sz mp bs)).h++y8 (zT o35)} λ_ _=>none)=
  (aM n cs ds sz mp bs tm).bind (PZ.el (λ_=>none) λv z=>some (v,⟨tP tm bs,hP tm cs ds sz mp bs z++y8 4,[14,13],[(2,0),(0,5),(8,0)],[],[],[],[]⟩)):=by kernel_rfl
def qR:yK τ 3 Tryz.f35.results.toList (jH n).rs some ⟨tP tm bs,hC tm cs ds sz mp bs z c v,[],[(2,0),(0,5)],[],[],[],[]⟩=some (Val.mk 0 0 [] [],v,z.take c):=by kernel_rfl
end
def az9(cs:A7)(ds:A4)(sz:A2)(p:List (Str×Val))(b:At)(a:Tm)(t:As):St 3 (h35 cs ds sz p b) (agG t (hB a cs ds sz p b)):=
 ⟨(wW (m:=0) (h:=hB a cs ds sz p b) (t:=t) (qAZ _)).inv,qAf rfl,λl c _=>by
  match l,c with|0,_=>exact .inl rfl|1,_=>exact .inl rfl|2,_=>exact .inl rfl⟩
def OV(n:Nat):ah Tryz.prog TE (jH n):=by
 refine⟨aHx,by kernel_rfl,λx y A t h M=>?_⟩;obtain⟨m,a,g,p,u,b⟩:=x;obtain⟨rfl,rfl⟩:t=[.ptr 0 0,.lf (.t .tm) m]/\h=h35 a g p u b:=⟨(congrArg Prod.fst M).symm,(congrArg Prod.snd M).symm⟩;clear M;show ∀r E,dW bS (jH n).rs (fF _ ((jH n).out y)) (dM 2) (h35 a g p u b)=(r,E)->eH Tryz.prog 35 (aU (h35 a g p u b) [.ptr 0 0,.lf (.t .tm) m]) (aB (h35 a g p u b)) (av E (res1 r)) (aB E);intro r E F;have S:∀T∈[nP n],ah Tryz.prog TE T:=λT C=>by
  rw[qAK.1 C];exact acv n
 have D:uf Tryz.prog TE=true:=by kernel_rfl
 have B:Tryz.prog.follows .mixedOrders=true:=by kernel_rfl
 have G:AW Tryz.prog 3 (cL Zz) (nrm 3 (aU (hA m a g p u b) (tA m)) (aB (hA m a g p u b))) (aU (h35 a g p u b) (t35 m)) (aB (h35 a g p u b)):=
  WM yJ (λe C=>by cases C) D B (wW (h:=h35 a g p u b) (qAd 3)) (qA n m a g p u b)
 have H:AW Tryz.prog 3 (cL (cR Zz)) (nrm 3 (aU (hB m a g p u b) (tB m b (.tup []))) (aB (hB m a g p u b))) (aU (hA m a g p u b) (tA m)) (aB (hA m a g p u b)):=
  WM yJ (λe C=>by cases C) D B (wW (h:=hA m a g p u b) (qAf rfl)) (qB n m a g p u b)
 have A:rW n a g p u b m=some y:=A;unfold rW at A;have I:=λ(s:DS) (N:St 3 (h35 a g p u b) s) (V:yK τ 3 Tryz.f35.results.toList (jH n).rs some s=some y)=>
  ad9 (h:=[]) (P:=Tryz.prog) (e:=jH n) (rvs:=Tryz.f35.results.toList) (out:=(jH n).out) (inn:=some) sm Cs (h0:=h35 a g p u b) rfl rfl rfl N (by rw[<-yJ];exact V) F
 have J:3<=E.length:=by
  have W:_=E:=congrArg Prod.snd F;rw[<-W];exact qAf rfl
 cases C:aM n a g p u b m with
 |none=>rw[C]at A;cases A
 |some o=>
  rw[C]at A;cases o with
  |ok x=>
   have O:y=(x.1,0,x.2):=(Option.some.inj A).symm;refine aoH (f:=35) (d:=72) (n:=12) (r0:=cL Zz) (r1:=cL (cR Zz)) (r3:=cR (cR (cR Zz))) (TB:=aU (hB m a g p u b) (tB m b (.tup []))) (HB:=aB (hB m a g p u b)) Tryz.func35 rfl (qAf rfl) rfl rfl rfl rfl rfl rfl (qAf rfl) ayL (λX w Y=>aGY X w (by simpa using Y)) G H J ?_;exact aFf yJ S D B (az9 a g p u b m _) ((qI n m a g p u b).trans (by rw[C,O];rfl)) I
  |er v z=>
   have A:(bif decide ((0:Int)<=v)&&decide (v<=1000)then((FJ (List.length z) (List.length b:Int)).bind λc=>bif Nat.ble c (List.length z)then some (Val.mk 0 0 ([]:Str) [],v,List.take c z)else none)else none)=some y:=A;obtain⟨U,A⟩:=(bD A).resolve_right λh=>by cases h.2
   simp only[qAa,decide_eq_true_eq]at U;obtain⟨c,Z,A⟩:=ob A;obtain⟨K,A⟩:=(bD A).resolve_right λh=>by cases h.2
   have O:y=(Val.mk 0 0 [] [],v,z.take c):=(Option.some.inj A).symm;refine aoM (f:=35) (d:=72) (n:=12) (r0:=cL Zz) (r1:=cL (cR Zz)) (r3:=cR (cR (cR Zz))) (TB:=aU (hB m a g p u b) (tB m b (.tup []))) (HB:=aB (hB m a g p u b)) (TP:=aU (hP m a g p u b z) (tP m b)) (HP:=aB (hP m a g p u b z)) Tryz.func35 rfl (qAf rfl) rfl rfl rfl rfl rfl rfl (qAf rfl) ayL G H J ?_ (aIT m a g p u b z c v U Z K) ?_
   ·refine AW.seq (x:=.region 3 o35.toArray false) (y:=.ret) ((axN (id:=3) yJ S (az9 a g p u b m _).inv ((qP n m a g p u b).trans (by rw[C];rfl))).mono λe t h Q=>?_);obtain⟨rfl,rfl,rfl⟩:=Q;exact⟨rfl,auK (aU (hP m a g p u b z) (tP m b)) (aB (hP m a g p u b z)) 4⟩
   ·refine I ⟨tP m b,hC m a g p u b z c v,[],[(2,0),(0,5)],[],[],[],[]⟩ ⟨⟨λi k c L=>(by cases L),λd i j L=>(by cases L),λd x L=>(by cases L)⟩,qAf rfl,λl hl R=>?_⟩ (O▸qR n m a g p u b z c v)
    match l,hl with
    |0,_=>
     refine .inr ⟨_,_,rfl,rfl,rfl,λq Q=>?_⟩
     match q with
     |0=>rfl
     |1=>rfl
     |2=>rfl
     |3=>rfl
     |4=>cases Q
     |q+5=>rfl
    |1,_=>exact .inl rfl
    |2,_=>exact absurd cn R
set_option maxRecDepth 100000
def ag5:∀n,ah Tryz.prog TE (aqN n)|0=>jR (fn:=Tryz.f60) Cs λ_=>rfl|n+1=>MKS n [(14,.jn [.r 164 .B] false),(106,.jn [.r 8 .B] false),(122,.lp [.r 9 .I] 1 []),(430,.jn [.r 8 .B] false),(1726,.jn [.r 8 .B] false),(1956,.jn [.r 203 .B] false),(6910,.jn [.r 8 .B] false)] (.c (zZ n) (.c (ag5 n) (.c (QU n) .n))) @Tryz.func60
def Uk(n:Nat):ah Tryz.prog TE (Uj n):=MKS n [(6,.jn [.r 25 .B] false),(58,.lp [.r 3 .I] 0 [])] (.c (OA n) (.c (anO n) (.c (ag5 n) .n))) @Tryz.func37
def ZP(n:Nat):ah Tryz.prog TE (ZE n):=MKS n [(26,.lp [.r 5 .I] 0 [])] .n @Tryz.func159
def asY(n:Nat):ah Tryz.prog TE (abR n):=MKS n [] .n @Tryz.func178
def Zv(n:Nat):ah Tryz.prog TE (aq9 n):=MKS n [] .n @Tryz.func177
def Ru(n:Nat):ah Tryz.prog TE (QB n):=MKS n [(26,.lp [.r 6 .I] 0 []),(1682,.lp [.r 7 .I] 2 [])] .n @Tryz.func161
def arh(n:Nat):ah Tryz.prog TE (ada n):=MKS n [(26,.lp [.r 8 .I] 0 [])] (.c (ZP n) (.c (zZ n) (.c (asY n) (.c (Zv n) (.c (Ru n) .n))))) @Tryz.func104
def Yg(n:Nat):ah Tryz.prog TE (ai3 n):=MKS n [(3,.jn [.r 2 .B] false)] .n @Tryz.func105
def agB(n:Nat):ah Tryz.prog TE (arS n):=MKS n [] .n @Tryz.func28
def Bp:∀n,ah Tryz.prog TE (aah n)|0=>jR (fn:=Tryz.f181) Cs λ_=>rfl|n+1=>MKS n [(6,.jn [.r 26 .B] false),(58,.lp [.r 5 .I] 0 [])] (.c (Bp n) .n) @Tryz.func181
def atg(n:Nat):ah Tryz.prog TE (aro n):=MKS n [(26,.lp [.r 5 .I] 0 [])] (.c (Bp n) .n) @Tryz.func179
def aoe(n:Nat):ah Tryz.prog TE (anm n):=MKS n [] .n @Tryz.func180
def ayS(n:Nat):ah Tryz.prog TE (an3 n):=MKS n [] .n @Tryz.func264
def ax6(n:Nat):ah Tryz.prog TE (ai9 n):=MKS n [(26,.jn [.r 7 .B] false),(107,.jn [.r 11 .B] false),(431,.jn [.r 21 .B] false),(1726,.jn [.r 5 .B,.o 0 (.bx [(0,.k (.n .i64 2)),(1,.k (.s ([]:Str))),(2,.k (.l .ty))])] false),(1727,.jn [.r 36 .B] false),(6910,.jn [.r 5 .B,.o 0 (.bx [(0,.k (.n .i64 2)),(1,.k (.s ([]:Str))),(2,.k (.l .ty))])] false),(6911,.jn [.r 54 .B] false),(27647,.jn [.r 63 .B] false),(110590,.jn [.r 5 .B,.o 0 (.bx [(0,.k (.n .i64 2)),(1,.k (.s ([]:Str))),(2,.k (.l .ty))])] false),(442366,.jn [.r 5 .B,.o 0 (.bx [(0,.k (.n .i64 2)),(1,.k (.s ([]:Str))),(2,.k (.l .ty))])] false)] (.c (ayS n) (.c (atg n) (.c (Yg n) (.c (Bp n) (.c (agB n) (.c (Zv n) .n)))))) @Tryz.func182
def aw1(n:Nat):ah Tryz.prog TE (ajI n):=MKS n [(3,.jn [.r 2 .B] false)] .n @Tryz.func265
def atC(n:Nat):ah Tryz.prog TE (afm n):=MKS n [] .n @Tryz.func266
def axx(n:Nat):ah Tryz.prog TE (aj1 n):=MKS n [] .n @Tryz.func267
def aoK(n:Nat):ah Tryz.prog TE (aak n):=MKS n [(15,.jn [.o 2 (.bx [(0,.lf (.n .i64)),(1,.lf .s),(2,.lf (.l .ty))])] false),(30,.jn [.r 16 .B] false),(8111,.jn [.r 59 .B] false),(16220,.jn [.r 49 .B] false),(32447,.jn [.r 70 .B] false)] (.c (aw1 n) (.c (Bp n) (.c (atC n) (.c (axx n) (.c (aoe n) (.c (Zv n) .n)))))) @Tryz.func183
def aCL(n:Nat):ah Tryz.prog TE (aq1 n):=MKS n [(107,.jn [.r 12 .B] false),(1726,.jn [.r 5 .B,.o 1 (.bx [(0,.k (.n .i64 4)),(1,.k (.s ([]:Str))),(2,.lf (.l .ty))])] false),(6910,.jn [.r 5 .B,.o 1 (.bx [(0,.k (.n .i64 5)),(1,.k (.s ([]:Str))),(2,.lf (.l .ty))])] false),(442366,.jn [.r 5 .B,.o 1 (.bx [(0,.lf (.n .i64)),(1,.lf .s),(2,.lf (.l .ty))])] false),(3538940,.jn [.r 103 .B] false),(7077887,.jn [.r 123 .B] false),(113246207,.jn [.r 143 .B] false),(452984830,.jn [.r 5 .B,.o 1 (.bx [(0,.lf (.n .i64)),(1,.lf .s),(2,.lf (.l .ty))])] false),(452984831,.jn [.r 163 .B] false),(3623878652,.jn [.r 181 .B] false),(7247757307,.jn [.o 2 (.bx [(0,.k (.n .i64 5)),(1,.k (.s ([]:Str))),(2,.lf (.l .ty))])] false)] (.c (agB n) (.c (atg n) (.c (aoe n) (.c (Zv n) (.c (Yg n) (.c (Bp n) (.c (ax6 n) (.c (aoK n) .n)))))))) @Tryz.func106
set_option maxRecDepth 100000
def afu:∀n,ah Tryz.prog TE (afl n)|0=>jR (fn:=Tryz.f51) Cs λ_=>rfl|n+1=>MKS n [(30,.jn [.r 44 .B] false),(506,.lp [.w (.own .ty),.r 12 (.own 4),.r 13 .I] 0 [.w (.own .ty),.r 12 (.own 4)]),(16201,.jn [.r 14 .Ldec] true),(32402,.jn [.r 60 .B] false)] (.c (arh n) (.c (Yk n) (.c (VD n) (.c (afu n) (.c (Yg n) (.c (aCL n) (.c (Ey n) .n))))))) @Tryz.func51
def Ow:∀n,ah Tryz.prog TE (Z5 n)|0=>jR (fn:=Tryz.f52) Cs λ_=>rfl|n+1=>MKS n [(58,.lp [.r 4 .I,.o 2 (.bx [(2,.own 3)]),.w (.own .ty)] 0 [.o 2 (.bx [(2,.own 3)]),.w (.own .ty)])] (.c (Ow n) .n) @Tryz.func52
def MN(n:Nat):ah Tryz.prog TE (afz n):=MKS n [(6,.jn [.r 17 .B] false)] (.c (OA n) (.c (Ad n) (.c (afu n) (.c (Ow n) .n)))) @Tryz.func23
def DT(n:Nat):ah Tryz.prog TE (aiN n):=MKS n [] .n @Tryz.func76
def FM(n:Nat):ah Tryz.prog TE (afM n):=MKS n [] .n @Tryz.func29
def aAn(n:Nat):ah Tryz.prog TE (an0 n):=MKS n [] .n @Tryz.func160
def axQ(n:Nat):ah Tryz.prog TE (ahX n):=MKS n [(28,.lp [.r 0 .Lval,.r 1 .Lval,.w (.own .val),.r 5 (.own 0)] 0 [.w (.own .val),.r 5 (.own 0)]),(112,.jn [.r 14 .B] false),(453,.jn [.r 6 .I] false),(907,.jn [.r 0 .Lval,.w (.own .val),.r 5 (.own 1),.o 0 .dead] false),(1815,.jn [.w (.own .val),.r 5 (.own 2),.o 1 .dead] false)] (.c (QU n) .n) @Tryz.func261
def afO:∀n,ah Tryz.prog TE (afd n)|0=>jR (fn:=Tryz.f162) Cs λ_=>rfl|n+1=>MKS n [] (.c (afO n) (.c (axQ n) .n)) @Tryz.func162
def xA(n:Nat):ah Tryz.prog TE (aq7 n):=MKS n [] (.c (afO n) .n) @Tryz.func78
def azw(n:Nat):ah Tryz.prog TE (anW n):=MKS n [(26,.lp [.r 7 .I] 0 []),(3946,.lp [.w (.own .val),.r 10 (.own 2),.r 11 .I] 2 [.w (.own .val),.r 10 (.own 2)])] (.c (ZP n) (.c (zZ n) (.c (aAn n) (.c (xA n) (.c (Ru n) .n))))) @Tryz.func77
def Ie(n:Nat):ah Tryz.prog TE (anz n):=MKS n [] .n @Tryz.func83
def aoY(n:Nat):ah Tryz.prog TE (aaA n):=MKS n [(3,.jn [.r 2 .B] false)] .n @Tryz.func163
def Aq:∀n,ah Tryz.prog TE (Kg n)/\ah Tryz.prog TE (LG n)|0=>⟨jR (fn:=Tryz.f42) Cs λ_=>rfl,jR (fn:=Tryz.f16) Cs λ_=>rfl⟩|n+1=>⟨MKS n [(58,.lp [.r 5 .I] 0 [])] (.c (Aq n).2 .n) @Tryz.func42,
  MKS n [(3,.jn [.r 4 .B] false)] (.c (Aq n).1 .n) @Tryz.func16⟩
def za(n:Nat):ah Tryz.prog TE (LG n):=(Aq n).2
def Mh(n:Nat):ah Tryz.prog TE (afY n):=MKS n [(26,.lp [.r 5 .I] 0 [])] (.c (za n) .n) @Tryz.func165
def aCc(n:Nat):ah Tryz.prog TE (arV n):=MKS n [(26,.lp [.r 5 .I] 0 [])] (.c (Mh n) .n) @Tryz.func262
def MU(n:Nat):ah Tryz.prog TE (afb n):=MKS n [(58,.lp [.w (.own .val),.r 5 (.own 2),.r 6 .I] 0 [.w (.own .val),.r 5 (.own 2)])] (.c (xA n) .n) @Tryz.func171
def afq(n:Nat):ah Tryz.prog TE (afV n):=MKS n [] (.c (MU n) .n) @Tryz.func263
def asE(n:Nat):ah Tryz.prog TE (ads n):=MKS n [(62,.jn [.r 37 .B] false),(63,.jn [.r 6 .B] false)] (.c (aCc n) (.c (MU n) (.c (afq n) .n))) @Tryz.func164
def ab3(n:Nat):ah Tryz.prog TE (ach n):=MKS n [] (.c (xA n) .n) @Tryz.func84
def atb(n:Nat):ah Tryz.prog TE (adz n):=MKS n [(58,.lp [.w (.own .vals),.r 3 (.own 1),.r 4 .I,.o 0 .dead] 0 [.w (.own .vals),.r 3 (.own 1),.o 0 .dead]),(7462,.lp [.w (.own .vals),.r 3 (.own 2),.r 6 .I,.o 1 .dead] 2 [.w (.own .vals),.r 3 (.own 2),.o 1 .dead])] .n @Tryz.func166
set_option maxRecDepth 100000
def atz(n:Nat):ah Tryz.prog TE (afi n):=MKS n [(14,.jn [.r 25 .B] false),(122,.lp [.r 7 .I,.r 8 .I] 0 [.r 7 .I]),(1956,.jn [.r 7 .I] false),(250410,.lp [.r 7 .I,.r 9 .I] 3 [.r 7 .I]),(1001640,.jn [.r 45 .B] false)] .n @Tryz.func167
def abN(n:Nat):ah Tryz.prog TE (abo n):=MKS n [(58,.lp [.w (.own .val),.r 5 (.own 0),.r 6 .I] 0 [.w (.own .val),.r 5 (.own 0)]),(3730,.lp [.w (.own .val),.r 5 (.own 1),.r 7 .I,.o 0 .dead] 2 [.w (.own .val),.r 5 (.own 1),.o 0 .dead])] (.c (Ie n) .n) @Tryz.func168
def azL(n:Nat):ah Tryz.prog TE (anu n):=MKS n [(58,.lp [.w (.own .vals),.r 7 (.own 1),.r 8 .I,.o 0 .dead] 0 [.w (.own .vals),.r 7 (.own 1),.o 0 .dead]),(14922,.lp [.w (.own .vals),.r 9 (.own 2),.r 10 .I] 2 [.w (.own .vals),.r 9 (.own 2)]),(238756,.jn [.w (.own .vals),.r 9 (.own 3),.o 2 .dead] false),(1910054,.lp [.w (.own .vals),.r 9 (.own 4),.r 11 .I,.o 3 .dead] 4 [.w (.own .vals),.r 9 (.own 4),.o 3 .dead]),(7640217,.jn [.w (.own .vals),.r 9 (.own 5),.o 4 .dead] false),(61121737,.jn [.r 64 .B] false)] (.c (Ie n) (.c (afq n) .n)) @Tryz.func169
def atB(n:Nat):ah Tryz.prog TE (ae9 n):=MKS n [(15,.jn [.r 6 .Lvals] true),(60,.jn [.r 21 .B] false),(506,.lp [.w (.own .val),.r 8 (.own 1),.r 9 .I] 1 [.w (.own .val),.r 8 (.own 1)])] (.c (atb n) (.c (atz n) (.c (xA n) (.c (abN n) (.c (azL n) .n))))) @Tryz.func85
def ado(n:Nat):ah Tryz.prog TE (abV n):=MKS n [(6,.jn [.r 9 .B] false)] (.c (FM n) .n) @Tryz.func170
def awr(n:Nat):ah Tryz.prog TE (ah7 n):=MKS n [(122,.lp [.w (.own .val),.r 6 (.own 2),.r 7 .I] 1 [.w (.own .val),.r 6 (.own 2)]),(1727,.jn [.r 29 .B] false)] (.c (DT n) (.c (ado n) (.c (FM n) (.c (MU n) (.c (Ie n) (.c (xA n) .n)))))) @Tryz.func86
def apU(n:Nat):ah Tryz.prog TE (abz n):=MKS n [(250,.lp [.w (.own .val),.r 8 (.own 1),.r 9 .I] 1 [.w (.own .val),.r 8 (.own 1)]),(14155772,.jn [.r 77 .B] false)] (.c (DT n) (.c (ado n) (.c (FM n) (.c (xA n) .n)))) @Tryz.func87
def ayC(n:Nat):ah Tryz.prog TE (ani n):=MKS n [(58,.lp [.w (.own .val),.r 9 (.own 3),.r 10 .I] 0 [.w (.own .val),.r 9 (.own 3)]),(233,.jn [.w (.own .val),.r 9 (.own 4),.o 3 .dead] false)] (.c (Mh n) (.c (xA n) .n)) @Tryz.func172
def amv(n:Nat):ah Tryz.prog TE (Wm n):=MKS n [(107,.jn [.r 28 .B] false),(6890,.lp [.w (.own .val),.r 8 (.own 3),.r 9 .I] 1 [.w (.own .val),.r 8 (.own 3)]),(27561,.jn [.w (.own .val),.r 8 (.own 4),.o 3 .dead] false),(27647,.jn [.r 148 .B] false),(110591,.jn [.r 156 .B] false),(442346,.lp [.w (.own .val),.r 11 (.own 3),.r 12 .I] 3 [.w (.own .val),.r 11 (.own 3)]),(28310162,.lp [.w (.own .val),.r 11 (.own 4),.r 13 .I,.o 3 .dead] 5 [.w (.own .val),.r 11 (.own 4),.o 3 .dead]),(113240649,.jn [.w (.own .val),.r 11 (.own 5),.o 4 .dead] false)] (.c (ab3 n) (.c (Mh n) (.c (xA n) (.c (abN n) (.c (MU n) (.c (ayC n) (.c (za n) (.c (Ie n) .n)))))))) @Tryz.func88
def jm:∀n,ah Tryz.prog TE (Vg n)/\ah Tryz.prog TE (Sd n)/\ah Tryz.prog TE (JO n)/\ah Tryz.prog TE (abZ n)/\ah Tryz.prog TE (Vv n)|0=>⟨jR (fn:=Tryz.f82) Cs λ_=>rfl,jR (fn:=Tryz.f81) Cs λ_=>rfl,jR (fn:=Tryz.f80) Cs λ_=>rfl,jR (fn:=Tryz.f38) Cs λ_=>rfl,jR (fn:=Tryz.f79) Cs λ_=>rfl⟩|n+1=>⟨MKS n [(58,.lp [.w (.own .val),.r 8 (.own 1),.r 9 .I] 0 [.w (.own .val),.r 8 (.own 1)])] (.c (jm n).2.2.2.1 .n) @Tryz.func82,
  MKS n [(31,.jn [.r 10 .Lval] false),(255,.jn [.r 12 .Ltm] false),(32762,.lp [.r 14 .B,.r 15 .I,.o 0 .dead] 0 [.r 14 .B,.o 0 .dead]),(131049,.jn [.r 14 .B] false)] (.c (jm n).2.2.2.1 (.c (aoY n) (.c (jm n).1 (.c (asE n) (.c (Mh n) (.c (DT n) .n)))))) @Tryz.func81,
  MKS n [(60,.jn [.r 24 .B] false),(243,.jn [.r 34 .B] false),(486,.jn [.r 34 .B] false)] (.c (jm n).2.2.2.1 (.c (DT n) .n)) @Tryz.func80,
  MKS n [(26,.jn [.r 12 .B] false),(250,.jn [.r 79 .B] false),(254,.jn [.r 147 .B] false),(6911,.jn [.r 34 .B] false),(27647,.jn [.r 45 .B] false),(64255,.jn [.r 116 .B] false),(110591,.jn [.r 55 .B] false)] (.c (DT n) (.c (FM n) (.c (azw n) (.c (xA n) (.c (jm n).2.2.2.2 (.c (jm n).2.2.1 (.c (jm n).2.1 (.c (jm n).1 (.c (za n) (.c (Ie n) (.c (ab3 n) (.c (atB n) (.c (awr n) (.c (apU n) (.c (amv n) .n))))))))))))))) @Tryz.func38,
  MKS n [(506,.lp [.r 10 .B,.r 11 .B,.w (.own .val),.r 12 (.own 4),.r 13 .I] 0 [.r 10 .B,.r 11 .B,.w (.own .val),.r 12 (.own 4)]),(2025,.jn [.r 10 .B,.r 11 .B,.w (.own .val),.r 12 (.own 5),.o 4 .dead] true),(64807,.jn [.r 10 .B,.r 11 .B] false),(129615,.jn [.w (.own .val),.r 12 (.own 11),.o 4 .dead] false),(259230,.jn [.r 84 .B] false)] (.c (jm n).2.2.2.1 (.c (Ie n) (.c (DT n) (.c (xA n) .n)))) @Tryz.func79⟩
def aoa(n:Nat):ah Tryz.prog TE (abZ n):=(jm n).2.2.2.1
set_option maxRecDepth 100000
def Qc:∀n,ah Tryz.prog TE (abQ n)/\ah Tryz.prog TE (VA n)|0=>⟨jR (fn:=Tryz.f39) Cs λ_=>rfl,jR (fn:=Tryz.f89) Cs λ_=>rfl⟩|n+1=>⟨MKS n [] (.c (Qc n).2 .n) @Tryz.func39,
  MKS n [(58,.lp [.w (.own .val),.r 3 (.own 0),.r 4 .I] 0 [.w (.own .val),.r 3 (.own 0)])] (.c (Qc n).1 .n) @Tryz.func89⟩
def az7(n:Nat):ah Tryz.prog TE (abQ n):=(Qc n).1
def aAw(n:Nat):ah Tryz.prog TE (anv n):=MKS n [(6,.jn [.r 18 .B] false)] (.c (Uk n) (.c (Ad n) (.c (MN n) (.c (aoa n) (.c (az7 n) .n))))) @Tryz.func13
def acj(n:Nat):ah Tryz.prog TE (NI n):=MKS n [(14,.jn [.r 21 .B] false)] (.c (UO n) .n) @Tryz.func40
def Lj(n:Nat):ah Tryz.prog TE (XC n):=MKS n [(14,.jn [.r 21 .B] false)] (.c (MN n) .n) @Tryz.func18
def ayl(n:Nat):ah Tryz.prog TE (aiA n):=MKS n [(6,.jn [.r 16 .B] false),(31,.jn [.r 4 .B,.r 5 .I] false)] (.c (Uk n) (.c (Ad n) (.c (Lj n) (.c (aoa n) .n)))) @Tryz.func15
set_option maxRecDepth 100000
def BD(n:Nat):ah Tryz.prog TE (afZ n):=MKS n [(6,.jn [.r 18 .B] false)] (.c (OJ n) (.c (Sr n) (.c (UO n) (.c (aao n) (.c (OV n) (.c (Oi n) .n)))))) @Tryz.func12
theorem t_eval_interp_holds(n:Nat):ah Tryz.prog TE (e_eval_interp_holds n):=MKS n [(7,.jn [.r 4 .B,.r 5 .I] false)] (.c (OV n) .n) @Tryz.func41
def zx(n:Nat):ah Tryz.prog TE (ac3 n):=MKS n [(6,.jn [.r 14 .B] false)] (.c (OJ n) (.c (Sr n) (.c (acj n) (.c (aao n) (.c (t_eval_interp_holds n) .n))))) @Tryz.func14
set_option maxRecDepth 100000
def azf(n:Nat):ah Tryz.prog TE (aoi n):=MKS n [(3,.jn [.r 2 .B] false)] (.c (Va n) (.c (Ph n) .n)) @Tryz.func126
def aff(n:Nat):ah Tryz.prog TE (Vi n):=MKS n [(6,.jn [.r 17 .B] false),(122,.lp [.r 3 .I,.r 4 .I] 0 [.r 3 .I])] (.c (Ph n) .n) @Tryz.func130
def az2(n:Nat):ah Tryz.prog TE (anA n):=MKS n [(58,.lp [.r 6 .I] 0 []),(932,.jn [.r 40 .B] false)] (.c (adK n) .n) @Tryz.func131
def ahk(n:Nat):ah Tryz.prog TE (ahm n):=mk n [(12,.lp [.r 1 .I] 0 [.r 1 .I]),(48,.jn [.r 29 .B] false),(124,.lp [.r 5 .I] 2 [.r 5 .I]),(496,.jn [.r 48 .B] false),(508,.jn [.r 55 .B] false),(2035,.jn [.r 67 .B] false),(32574,.jn [.r 6 .S] false),(32575,.jn [.r 103 .B] false),(65148,.jn [.r 94 .B] false)] (e:=ahm (n)) (inn:=λy=>some (S_refinementref01_token.mk y.1 y.2.1 y.2.2)) (.c (azf n) (.c (Va n) (.c (acN n) (.c (Ph n) (.c (aff n) (.c (az2 n) .n)))))) @Tryz.func63 Cs (by intro z y h;first|(cases h;rfl)|(let⟨a,b⟩:=(bD h).resolve_right λh=>(by cases h.2);cases b;exact Prod.ext (qCD.1 a).symm rfl)|(let⟨a,b⟩:=(bD h).resolve_right λh=>(by cases h.2);cases b;let⟨f,d⟩:=z;cases d;rfl;cases a)|(simp only[c]at h;split at h<;>cases h;simp_all)) λ_=>by kernel_rfl
def yH(n:Nat):ah Tryz.prog TE (Lg n):=MKS n [] .n @Tryz.func66
def XH(n:Nat):ah Tryz.prog TE (KJ n):=MKS n [(3,.jn [.r 4 .B] false)] .n @Tryz.func132
def Qz(n:Nat):ah Tryz.prog TE (Rt n):=MKS n [] (.c (yH n) .n) @Tryz.func201
def Hy(n:Nat):ah Tryz.prog TE (GK n):=MKS n [(1,.jn [.o 0 (.bx [(4,.lf (.n .i64)),(5,.lf (.n .i64)),(6,.lf (.n .i64))])] false),(3,.jn [.o 0 (.bx [(4,.lf (.n .i64))])] false)] (.c (adK n) (.c (Qz n) (.c (ahk n) .n))) @Tryz.func133
def yx(n:Nat):ah Tryz.prog TE (FE n):=MKS n [] (.c (Qz n) .n) @Tryz.func136
def ahE(n:Nat):ah Tryz.prog TE (GV n):=MKS n [] (.c (yH n) (.c (XH n) (.c (yx n) (.c (Hy n) .n)))) @Tryz.func291
def YT(n:Nat):ah Tryz.prog TE (zS n):=MKS n [(7,.jn [.r 2 .B] false)] (.c (ahk n) .n) @Tryz.func329
def aoX(n:Nat):ah Tryz.prog TE (ZR n):=MKS n [] .n @Tryz.func331
def alQ(n:Nat):ah Tryz.prog TE (WW n):=MKS n [] .n @Tryz.func332
def aAu(n:Nat):ah Tryz.prog TE (anX n):=MKS n [] .n @Tryz.func333
def att(n:Nat):ah Tryz.prog TE (afy n):=MKS n [] (.c (aoX n) (.c (alQ n) (.c (aAu n) .n))) @Tryz.func292
def Zi(n:Nat):ah Tryz.prog TE (AA n):=MKS n [(6,.jn [.r 20 .B] false)] (.c (att n) .n) @Tryz.func204
def ahB(n:Nat):ah Tryz.prog TE (GZ n):=MKS n [(30,.jn [.r 21 .B] false)] (.c (yH n) (.c (U9 n) (.c (yx n) (.c (Hy n) .n)))) @Tryz.func330
def aur(n:Nat):ah Tryz.prog TE (Vk n):=MKS n [(58,.lp [.r 4 .I] 0 [])] .n @Tryz.func290
set_option maxRecDepth 100000
def ah0(n:Nat):ah Tryz.prog TE (Je n):=MKS n [(1,.jn [.r 11 .B] false)] (.c (yH n) (.c (yx n) .n)) @Tryz.func65
set_option maxRecDepth 100000
noncomputable def P1(n:Nat)(E:B6)(fn:Func)(f a:Nat)(ps:Be)(b:Nat)(s:Be)(hs:List (Nat×Hn)):Ent:=
 ⟨f,a,ps,b,s,jI (bM s),none,none,λx=>amq τ θ n hs E TE fn ⟨f,a,ps,b,s,jI (bM s),none,none,λ_=>none,λr=>r⟩ some x,λr=>r⟩
def mkP{n:Nat}{E:B6}{fn:Func}{f a:Nat}{ps:Be}{r:Nat}{s:Be}{hs:List (Nat×Hn)}(b:EOs Tryz.prog TE E)(c:Tryz.prog.funcs[f]? =some fn)(d:amg Tryz.prog fn (P1 n E fn f a ps r s hs)=true):ah Tryz.prog TE (P1 n E fn f a ps r s hs):=
 mk n hs (e:=P1 n E fn f a ps r s hs) (inn:=some) b c d (λz y h=>by cases h;rfl) λ_=>rfl
def EOs.app{P:Program}{te:Nat}{l m:B6}(h:EOs P te l)(k:EOs P te m):EOs P te (l++m):=by
 induction h with|n=>exact k|c h _ i=>exact .c h i
abbrev pi:Sk:=.lf (.n .i64)
abbrev pbx:Ed:=.w (.box [.S,pi,.S,pi,pi,pi,pi])
abbrev NW:Ed:=.o 0 (.bx [(1,pi),(2,.lf .s),(3,pi),(4,pi),(5,pi),(6,pi)])
def PB(n:Nat):B6:=[Vz n,X5 n,Vi n,ahm n,Je n,zS n,KJ n,GV n,GZ n,Lg n,AA n,GK n,FE n,Vk n]
def aDl(n:Nat):EOs Tryz.prog TE (PB n):=.c (U9 n) (.c (Ad n) (.c (aff n) (.c (ahk n) (.c (ah0 n) (.c (YT n) (.c (XH n) (.c (ahE n) (.c (ahB n) (.c (yH n) (.c (Zi n) (.c (Hy n) (.c (yx n) (.c (aur n) (.n))))))))))))))
noncomputable def PR(n:Nat)(E:B6):B6:=
 [P1 n E Tryz.f328 328 1 [.r 0 (.ptr 0 0),pbx] 1 [.r 0 .Tty,NW] [(115,.jn [.r 16 .B] false)],
  P1 n E Tryz.f289 289 2 [.r 0 (.ptr 0 0),.r 1 (pi),pbx] 1 [.r 0 .Ttm,NW] [],
  P1 n E Tryz.f135 135 3 [.r 0 (.ptr 0 0),.r 1 .Ttm,.r 2 (pi),pbx] 1 [.r 0 .Ttm,NW] [(12,.lp [NW,.o 1 (.bx [(0,pi),(1,.lf .s),(2,pi),(3,pi),(4,.lf .s),(5,.lf (.l .ty)),(6,.lf (.l .tm))])] 0 [NW,.o 1 (.bx [(0,pi),(1,.lf .s),(2,pi),(3,pi),(4,.lf .s),(5,.lf (.l .ty)),(6,.lf (.l .tm))])]),(6330,.jn [.r 19 .B] false)],
  P1 n E Tryz.f288 288 1 [.r 0 (.ptr 0 0),pbx] 1 [.r 0 .Ttm,NW] [(31,.jn [NW,.o 2 (.bx [(0,pi),(1,.lf .s),(2,pi),(3,pi),(4,.lf .s),(5,.lf (.l .ty)),(6,.lf (.l .tm))]),.o 3 .dead] true),(62,.jn [.r 42 .B] false),(508,.lp [NW,.o 5 (.bx [(6,.own 6)]),.w (.own .tm),.o 2 .dead,.o 4 .dead] 2 [NW,.o 5 (.bx [(6,.own 6)]),.w (.own .tm),.o 2 .dead,.o 4 .dead]),(2032,.jn [.r 89 .B] false),(4014,.jn [.r 54 .B] false),(32126,.lp [.r 8 (pi),NW,.o 2 (.bx [(0,pi),(1,.lf .s),(2,pi),(3,pi),(4,.lf .s),(5,.lf (.l .ty)),(6,.lf (.l .tm))]),.o 3 .dead,.o 4 .dead,.o 5 .dead] 0 [NW,.o 2 (.bx [(0,pi),(1,.lf .s),(2,pi),(3,pi),(4,.lf .s),(5,.lf (.l .ty)),(6,.lf (.l .tm))]),.o 3 .dead,.o 4 .dead,.o 5 .dead])],
  P1 n E Tryz.f202 202 1 [.r 0 (.ptr 0 0),pbx] 1 [.r 0 .Ttm,NW] [(30408703,.jn [.r 73 .B] false)],
  P1 n E Tryz.f134 134 1 [.r 0 (.ptr 0 0),pbx] 1 [.r 0 .Ttm,NW] [(28,.lp [NW,.o 2 (.bx [(0,pi),(1,.lf .s),(2,pi),(3,pi),(4,.lf .s),(5,.lf (.l .ty)),(6,.lf (.l .tm))])] 0 [NW,.o 2 (.bx [(0,pi),(1,.lf .s),(2,pi),(3,pi),(4,.lf .s),(5,.lf (.l .ty)),(6,.lf (.l .tm))])])],
  P1 n E Tryz.f64 64 2 [.r 0 (.ptr 0 0),.r 1 (pi),pbx] 1 [.r 0 .Ttm,NW] [(51,.jn [.r 10 .B] false),(207,.jn [.r 23 .B] false)],
  P1 n E Tryz.f203 203 2 [.r 0 (.ptr 0 0),.r 1 .S,pbx] 1 [.r 0 .Ttm,NW] []]
noncomputable def PE:Nat->B6|0=>[]|n+1=>PR n (PE n++PB n)
def aDn:∀n,EOs Tryz.prog TE (PE n)
 |0=>.n
 |n+1=>have h:=(aDn n).app (aDl n)
  .c (mkP h @Tryz.func328 Cs) (.c (mkP h @Tryz.func289 Cs) (.c (mkP h @Tryz.func135 Cs) (.c (mkP h @Tryz.func288 Cs) (.c (mkP h @Tryz.func202 Cs) (.c (mkP h @Tryz.func134 Cs) (.c (mkP h @Tryz.func64 Cs) (.c (mkP h @Tryz.func203 Cs) (.n))))))))
noncomputable def aj8(n:Nat):Ent:=P1 n (PE n++PB n) Tryz.f30 30 1 [.r 0 .S] 3 [.r 0 .Ttm,.r 1 (pi),.r 2 (pi)] []
def ax3(n:Nat):ah Tryz.prog TE (aj8 n):=mkP ((aDn n).app (aDl n)) @Tryz.func30 Cs
noncomputable def X8(n:Nat)(s:Str):Option (Tm×Int×Int):=(aj8 n).F s
noncomputable def P8(n:Nat):Ax:=(X8 n ([99,97,114,100,40,65,32,43,45,62,32,123,49,125,41]:Str)).bind λ(b:Tm×Int×Int)=>(X8 n ([110,32,61,32,48,32,111,114,32,54,32,47,32,110,32,61,32,50]:Str)).bind λ(c:Tm×Int×Int)=>(mU n (S_api_World.mk (Env.mk ([(Carrier.mk ([65]:Str) ([]))]) ([(Decl.mk ([110]:Str) (Ty.mk 1 ([]:Str) ([])))])) ([2]) ([(Val.mk 1 3 ([]:Str) ([]))])) b.1).bind λ(x:Val×Int)=>(j4 n (S_api_World.mk (Env.mk ([(Carrier.mk ([65]:Str) ([]))]) ([(Decl.mk ([110]:Str) (Ty.mk 1 ([]:Str) ([])))])) ([2]) ([(Val.mk 1 3 ([]:Str) ([]))])) c.1).bind λ(a:Bool×Int)=>((cond (x.2==0) (cond (x.1.kind==1) (cond (x.1.n==4) (cond (a.2==0) (some a.1) (some false)) (some false)) (some false)) (some false)):Ax).bind λ(s:Bool)=>some s
noncomputable def JK(n:Nat):Ent:=⟨11,0,[],1,[.r 0 .B],Bool,none,none,λx=>P8 n,λr=>r⟩
def ark(n:Nat):ah Tryz.prog TE (JK n):=mk n [(255,.jn [.r 0 .B] false)] (e:=JK (n)) (inn:=some) (.c (agB n) (.c (FM n) (.c (ax3 n) (.c (BD n) (.c (zx n) .n))))) @Tryz.func11
set_option maxRecDepth 100000
set_option maxRecDepth 100000 in
def aFZ:X8 150 ([99,97,114,100,40,65,32,43,45,62,32,123,49,125,41]:Str)=some (.mk 47 [] 0 (.mk 0 [] []) [.mk 42 [] 0 (.mk 0 [] []) [.mk 20 [65] 0 (.mk 0 [] []) [],.mk 28 [] 0 (.mk 0 [] []) [.mk 19 [] 1 (.mk 0 [] []) []]]],0,0):=by kernel_rfl
def aGP:X8 150 ([110,32,61,32,48,32,111,114,32,54,32,47,32,110,32,61,32,50]:Str)=some (.mk 5 [] 0 (.mk 0 [] []) [.mk 10 [] 0 (.mk 0 [] []) [.mk 20 [110] 0 (.mk 0 [] []) [],.mk 19 [] 0 (.mk 0 [] []) []],.mk 10 [] 0 (.mk 0 [] []) [.mk 25 [] 0 (.mk 0 [] []) [.mk 19 [] 6 (.mk 0 [] []) [],.mk 20 [110] 0 (.mk 0 [] []) []],.mk 19 [] 2 (.mk 0 [] []) []]],0,0):=by kernel_rfl
def axw:P8 150=some true:=by
 unfold P8;rw[aFZ,aGP]
 kernel_rfl
theorem aHc(m:Nat):(JK m).F ()=P8 m:=rfl
def EC(n:Nat):ah Tryz.prog TE (ajv n):=by have h:=ark 150;have b:mQ Tryz.prog 11=true:=h.1;have a:=h.2.2 () true ((aHc 150).trans axw);refine⟨b,by kernel_rfl,λx y c=>?_⟩;cases c;dsimp only[JK]at a;dsimp only[ajv];exact a
set_option maxRecDepth 100000
def aze(n:Nat):ah Tryz.prog TE (M8 n):=MKS n [(6,.jn [.r 21 .B] false),(127,.jn [.r 4 .B] false)] (.c (Et n) (.c (D6 n) (.c (EC n) (.c (BD n) (.c (aAw n) (.c (zx n) (.c (ayl n) (.c (za n) .n)))))))) @Tryz.func3
end Abs
end Go.Proofs.YtneeginmfjageaaGreat

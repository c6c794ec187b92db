/-
  The contract of eval.sorted as an entry. Conditions: none.
-/
import Derived.KernelRfl
import Derived.Shelf.SlGeneric
import Derived.Shelf.Spec.SlicesGrow
import Derived.Ground.Names8Prog
import Derived.Test.YthgdaonechbgmaaGreatProg
import Derived.Test.YthgdaonechbgmaaGreatCSrtoxbec9d4
set_option linter.all false
namespace Go.Proofs.YthgdaonechbgmaaGreat
namespace Abs
section
open Go Go.Proofs
theorem aGB:mQ Tryz.prog 36=true:=by kernel_rfl
theorem als(n:Nat)(p0:List Val)(r:List Val)(h:kH n p0=some r):eH Tryz.prog 36 [.slice (List.map bf p0) .shared] [] (.slice (List.map bf r) .shared) []:=by
 unfold kH app at h;split at h
 ·rename_i hb;simp only[qAb,qAo,Option.some.injEq]at h;subst h;exact aeT [] p0 .shared (by simpa using hb.1)
 ·cases h
theorem Bl(n:Nat):ah Tryz.prog TE (apd n):=aj9 aGB (by kernel_rfl) rfl fun x y h y' hy=>by
 cases hy;exact als n x y h
end
section
open Go Go.Proofs
set_option maxRecDepth 100000
theorem OJ(n:Nat):ah Tryz.prog TE (O7 n):=MKS n [(6,.jn [.r 26 .B] false),(58,.lp [.r 31 .I] 0 [])] (.c (Fv n) (.c (UE n) (.c (ajL n) .n))) @Tryz.func25
theorem aud(n:Nat):ah Tryz.prog TE (afp n):=MKS n [(12,.jn [.r 4 .B] false),(51,.jn [.r 15 .B] false),(831,.jn [.r 31 .B] false),(1647,.jn [.r 15 .B] false)] .n @Tryz.func176
theorem aqm(n:Nat):ah Tryz.prog TE (acT n):=MKS n [] (.c (Jf n) (.c (tF n) .n)) @Tryz.func177
theorem aop(n:Nat):ah Tryz.prog TE (ZB n):=MKS n [(3,.jn [.r 2 .B] false)] .n @Tryz.func178
theorem ajZ(n:Nat):ah Tryz.prog TE (Ud n):=MKS n [(3,.jn [.r 2 .B] false)] .n @Tryz.func179
theorem ao3(n:Nat):ah Tryz.prog TE (Zx n):=MKS n [(7,.jn [.r 4 .B] true),(15,.jn [.r 4 .B] false),(28,.jn [.r 14 .B] false),(63,.jn [.r 2 .B] false),(227,.jn [.r 14 .B] false),(250,.jn [.r 2 .B] false)] (.c (aud n) (.c (aqm n) (.c (aop n) (.c (tF n) (.c (uP n) (.c (ajZ n) .n)))))) @Tryz.func110
theorem gT:∀n,ah Tryz.prog TE (vN n)∧ah Tryz.prog TE (sK n)∧ah Tryz.prog TE (BN n)∧ah Tryz.prog TE (yN n)
 |0=>⟨jR (fn:=Tryz.f180) (by kernel_rfl) fun _=>rfl,jR (fn:=Tryz.f111) (by kernel_rfl) fun _=>rfl,jR (fn:=Tryz.f56) (by kernel_rfl) fun _=>rfl,jR (fn:=Tryz.f112) (by kernel_rfl) fun _=>rfl⟩
 |n+1=>⟨MKS n [(26,.lp [.r 8 .I,.o 1 (.bx [(0,.lf (.n .i64))])] 0 [.o 1 (.bx [(0,.lf (.n .i64))])])] (.c (gT n).2.2.2 .n) @Tryz.func180,
  MKS n [] (.c (gT n).1 .n) @Tryz.func111,
  MKS n [(6,.jn [.r 15 .B,.o 0 (.bx [(0,.lf (.n .i64))])] false)] (.c (I8 n) (.c (ao3 n) (.c (gT n).2.1 .n))) @Tryz.func56,
  MKS n [] (.c (gT n).2.2.1 .n) @Tryz.func112⟩
theorem aa8(n:Nat):ah Tryz.prog TE (BN n):=(gT n).2.2.1
theorem Sr(n:Nat):ah Tryz.prog TE (acF n):=MKS n [] (.c (aa8 n) .n) @Tryz.func26
theorem kG(n:Nat):ah Tryz.prog TE (Wu n):=MKS n [] .n @Tryz.func121
theorem al3(n:Nat):ah Tryz.prog TE (XK n):=MKS n [(58,.lp [.r 15 .I,.o 1 (.mp .ty)] 0 [.o 1 (.mp .ty)]),(122,.lp [.r 42 .I,.o 1 (.mp .ty),.o 0 .dead] 4 [.o 1 (.mp .ty),.o 0 .dead]),(59806,.lp [.r 30 .I,.o 1 (.mp .ty),.o 2 .dead] 2 [.o 1 (.mp .ty),.o 2 .dead])] (.c (kG n) .n) @Tryz.func113
theorem El(n:Nat):ah Tryz.prog TE (Wq n):=MKS n [] .n @Tryz.func182
theorem aot(n:Nat):ah Tryz.prog TE (ZV n):=MKS n [(7,.fz [1,0])] .n @Tryz.func181
theorem HY(n:Nat):ah Tryz.prog TE (Sl n):=MKS n [] .n @Tryz.func183
theorem asO(n:Nat):ah Tryz.prog TE (ab9 n):=MKS n [(7,.fz [0])] .n @Tryz.func186
theorem aaJ(n:Nat):ah Tryz.prog TE (Kq n):=MKS n [(7,.fz [0])] .n @Tryz.func192
theorem ak5(n:Nat):ah Tryz.prog TE (VQ n):=MKS n [(7,.fz [0])] .n @Tryz.func194
theorem aeV(n:Nat):ah Tryz.prog TE (OQ n):=MKS n [(7,.fz [0])] .n @Tryz.func196
theorem aoD(n:Nat):ah Tryz.prog TE (Z6 n):=MKS n [(7,.fz [0])] .n @Tryz.func197
theorem ajQ(n:Nat):ah Tryz.prog TE (TL n):=MKS n [(7,.fz [0])] .n @Tryz.func197
theorem aoG(n:Nat):ah Tryz.prog TE (aaf n):=MKS n [(7,.fz [0])] .n @Tryz.func201
theorem akd(n:Nat):ah Tryz.prog TE (Uf n):=MKS n [(7,.fz [0])] .n @Tryz.func201
theorem amH(n:Nat):ah Tryz.prog TE (VP n):=MKS n [(7,.fz [0])] .n @Tryz.func186
theorem Wj(n:Nat):ah Tryz.prog TE (II n):=MKS n [(7,.fz [0])] .n @Tryz.func192
theorem W9(n:Nat):ah Tryz.prog TE (Ir n):=MKS n [(7,.fz [0])] .n @Tryz.func192
theorem ag4(n:Nat):ah Tryz.prog TE (Rp n):=MKS n [(7,.fz [0])] .n @Tryz.func194
theorem af9(n:Nat):ah Tryz.prog TE (Q0 n):=MKS n [(7,.fz [0])] .n @Tryz.func194
theorem WZ(n:Nat):ah Tryz.prog TE (Il n):=MKS n [(7,.fz [0])] .n @Tryz.func192
theorem Xg(n:Nat):ah Tryz.prog TE (Ih n):=MKS n [(7,.fz [0])] .n @Tryz.func192
theorem Xt(n:Nat):ah Tryz.prog TE (Ii n):=MKS n [(7,.fz [0])] .n @Tryz.func192
theorem V8(n:Nat):ah Tryz.prog TE (IJ n):=MKS n [(7,.fz [0])] .n @Tryz.func192
theorem Wo(n:Nat):ah Tryz.prog TE (Ij n):=MKS n [(7,.fz [0])] .n @Tryz.func192
theorem aoP(n:Nat):ah Tryz.prog TE (aan n):=MKS n [] (.c (El n) (.c (aot n) (.c (HY n) (.c (asO n) (.c (aaJ n) (.c (ak5 n) (.c (aeV n) (.c (aoD n) (.c (ajQ n) (.c (aoG n) (.c (kG n) (.c (akd n) (.c (amH n) (.c (Wj n) (.c (W9 n) (.c (ag4 n) (.c (af9 n) (.c (WZ n) (.c (Xg n) (.c (Xt n) (.c (V8 n) (.c (Wo n) .n)))))))))))))))))))))) @Tryz.func114
theorem aa0(n:Nat):ah Tryz.prog TE (Km n):=mk n [(58,.lp [.r 15 .I,.o 2 (.mp .b),.o 0 .dead] 0 [.o 2 (.mp .b),.o 0 .dead])] (e:=Km (n)) (inn:=fun y=>bif List.isEmpty y.1 then some (y.2.1,y.2.2)else none) (.c (al3 n) (.c (aoP n) .n)) @Tryz.func57 (by kernel_rfl) (by intro z y h;first|(cases h;rfl)|(obtain⟨h1,h2⟩:=(bD h).resolve_right fun h=>(by cases h.2);cases h2;exact Prod.ext (qCD.1 h1).symm rfl)|(obtain⟨h1,h2⟩:=(bD h).resolve_right fun h=>(by cases h.2);cases h2;obtain⟨z1,z2⟩:=z;cases z2;rfl;cases h1)|(simp only[cond]at h;split at h<;>cases h;simp_all)) fun _=>by kernel_rfl
theorem ahP(n:Nat):ah Tryz.prog TE (TT n):=MKS n [(3,.jn [.r 2 .B] false)] .n @Tryz.func116
theorem fK(n:Nat):ah Tryz.prog TE (ND n):=MKS n [] .n @Tryz.func117
theorem WK(n:Nat):ah Tryz.prog TE (IQ n):=MKS n [(12,.lp [.r 0 .Fd] 0 [])] .n @Tryz.func118
theorem QE(n:Nat):ah Tryz.prog TE (CP n):=MKS n [(3,.jn [.r 3 .B] false)] .n @Tryz.func215
theorem Lp(n:Nat):ah Tryz.prog TE (yP n):=MKS n [(26,.lp [.r 8 .I] 0 [])] (.c (QE n) .n) @Tryz.func166
theorem I6(n:Nat):ah Tryz.prog TE (vK n):=MKS n [] (.c (Lp n) .n) @Tryz.func92
theorem Vw(n:Nat):ah Tryz.prog TE (F3 n):=MKS n [] (.c (Fu n) (.c (I6 n) .n)) @Tryz.func119
theorem aha(n:Nat):ah Tryz.prog TE (QZ n):=MKS n [] (.c (uP n) .n) @Tryz.func120
theorem aaG(n:Nat):ah Tryz.prog TE (Kr n):=MKS n [] .n @Tryz.func270
theorem aeM(n:Nat):ah Tryz.prog TE (O5 n):=MKS n [] .n @Tryz.func264
theorem Qe(n:Nat):ah Tryz.prog TE (Ci n):=MKS n [(26,.lp [.r 8 .I] 0 [])] (.c (aeM n) .n) @Tryz.func296
theorem K6(n:Nat):ah Tryz.prog TE (zk n):=MKS n [] (.c (Qe n) .n) @Tryz.func250
theorem aic(n:Nat):ah Tryz.prog TE (Tt n):=MKS n [] (.c (K6 n) .n) @Tryz.func263
theorem Tk(n:Nat):ah Tryz.prog TE (UL n):=MKS n [] (.c (El n) .n) @Tryz.func198
theorem aeK(n:Nat):ah Tryz.prog TE (O6 n):=MKS n [] (.c (Tk n) .n) @Tryz.func271
theorem oP:∀n,ah Tryz.prog TE (vL n)∧ah Tryz.prog TE (K4 n)
 |0=>⟨jR (fn:=Tryz.f267) (by kernel_rfl) fun _=>rfl,jR (fn:=Tryz.f191) (by kernel_rfl) fun _=>rfl⟩
 |n+1=>⟨MKS n [(58,.lp [.r 17 .I] 0 [])] (.c (oP n).2 .n) @Tryz.func267,
  MKS n [(3,.jn [.r 4 .B] false)] (.c (oP n).1 .n) @Tryz.func191⟩
theorem qF(n:Nat):ah Tryz.prog TE (K4 n):=(oP n).2
theorem ahd(n:Nat):ah Tryz.prog TE (QG n):=MKS n [] (.c (qF n) .n) @Tryz.func265
theorem Pm(n:Nat):ah Tryz.prog TE (Ch n):=MKS n [(26,.lp [.r 8 .I] 0 [])] (.c (ahd n) .n) @Tryz.func296
theorem KE(n:Nat):ah Tryz.prog TE (ze n):=MKS n [] (.c (Pm n) .n) @Tryz.func250
theorem zh(n:Nat):ah Tryz.prog TE (Xb n):=MKS n [(3,.jn [.r 2 .B] false)] (.c (KE n) .n) @Tryz.func185
theorem akB(n:Nat):ah Tryz.prog TE (UK n):=MKS n [] (.c (El n) (.c (zh n) .n)) @Tryz.func184
theorem akD(n:Nat):ah Tryz.prog TE (TQ n):=MKS n [(7,.jn [.r 3 .B,.o 0 (.bx [(0,.k (.n .i64 2)),(1,.k (.s ([]:Str))),(2,.k (.l .ty))])] false)] (.c (fK n) (.c (El n) (.c (qF n) .n))) @Tryz.func200
theorem aeY(n:Nat):ah Tryz.prog TE (OU n):=MKS n [(3,.jn [.r 4 .B,.o 0 (.bx [(0,.k (.n .i64 2)),(1,.k (.s ([]:Str))),(2,.k (.l .ty))])] false)] (.c (Tk n) (.c (zh n) .n)) @Tryz.func272
theorem Um(n:Nat):ah Tryz.prog TE (UU n):=MKS n [] .n @Tryz.func203
theorem akC(n:Nat):ah Tryz.prog TE (Ue n):=MKS n [(3,.jn [.r 3 .B,.o 0 (.bx [(0,.k (.n .i64 4)),(1,.k (.s ([]:Str))),(2,.lf (.l .ty))])] false)] (.c (Um n) .n) @Tryz.func202
theorem akg(n:Nat):ah Tryz.prog TE (TY n):=MKS n [] (.c (kG n) (.c (zh n) .n)) @Tryz.func204
theorem TM(n:Nat):ah Tryz.prog TE (U0 n):=MKS n [] .n @Tryz.func199
theorem aeI(n:Nat):ah Tryz.prog TE (OY n):=MKS n [(3,.jn [.r 4 .B,.o 0 (.bx [(0,.lf (.n .i64)),(1,.lf .s),(2,.lf (.l .ty))])] false)] (.c (TM n) (.c (zh n) .n)) @Tryz.func272
theorem tu(n:Nat):ah Tryz.prog TE (O1 n):=MKS n [] (.c (Um n) (.c (kG n) .n)) @Tryz.func188
theorem agE(n:Nat):ah Tryz.prog TE (Sy n):=MKS n [(30,.jn [.r 28 .B] false)] (.c (fK n) (.c (tu n) .n)) @Tryz.func266
theorem kI(n:Nat):ah Tryz.prog TE (Wz n):=MKS n [(14,.jn [.r 17 .B] false)] (.c (fK n) .n) @Tryz.func190
theorem ajU(n:Nat):ah Tryz.prog TE (S9 n):=MKS n [] (.c (zh n) .n) @Tryz.func205
theorem SV(n:Nat):ah Tryz.prog TE (EZ n):=MKS n [] (.c (kI n) (.c (ajU n) .n)) @Tryz.func268
theorem ajO(n:Nat):ah Tryz.prog TE (UC n):=MKS n [(7,.jn [.r 7 .B,.o 2 (.bx [(0,.k (.n .i64 5)),(1,.k (.s ([]:Str))),(2,.lf (.l .ty))])] false)] (.c (kI n) (.c (tu n) (.c (qF n) .n))) @Tryz.func206
theorem SL(n:Nat):ah Tryz.prog TE (EM n):=MKS n [] (.c (kI n) (.c (ajO n) .n)) @Tryz.func268
theorem aj6(n:Nat):ah Tryz.prog TE (U2 n):=MKS n [(15,.jn [.r 3 .B,.o 0 (.bx [(0,.lf (.n .i64)),(1,.lf .s),(2,.lf (.l .ty))])] false)] (.c (fK n) (.c (kI n) (.c (qF n) .n))) @Tryz.func189
theorem aiH(n:Nat):ah Tryz.prog TE (SY n):=MKS n [(7,.jn [.r 7 .B,.o 2 (.bx [(0,.lf (.n .i64)),(1,.lf .s),(2,.lf (.l .ty))])] false)] (.c (fK n) (.c (qF n) .n)) @Tryz.func193
theorem SG(n:Nat):ah Tryz.prog TE (Fa n):=MKS n [] (.c (kI n) (.c (aiH n) .n)) @Tryz.func268
theorem ais(n:Nat):ah Tryz.prog TE (UM n):=MKS n [] (.c (tu n) (.c (kG n) .n)) @Tryz.func187
theorem ag8(n:Nat):ah Tryz.prog TE (Sw n):=MKS n [(30,.jn [.r 28 .B] false)] (.c (fK n) (.c (ais n) .n)) @Tryz.func266
theorem agj(n:Nat):ah Tryz.prog TE (QA n):=MKS n [] (.c (kG n) .n) @Tryz.func207
theorem adh(n:Nat):ah Tryz.prog TE (Np n):=MKS n [] (.c (fK n) (.c (agj n) .n)) @Tryz.func269
theorem agn(n:Nat):ah Tryz.prog TE (Q9 n):=MKS n [] (.c (HY n) .n) @Tryz.func208
theorem abI(n:Nat):ah Tryz.prog TE (NH n):=MKS n [] (.c (fK n) (.c (agn n) .n)) @Tryz.func269
theorem air(n:Nat):ah Tryz.prog TE (UD n):=MKS n [] (.c (HY n) .n) @Tryz.func195
theorem acA(n:Nat):ah Tryz.prog TE (NU n):=MKS n [] (.c (fK n) (.c (air n) .n)) @Tryz.func269
theorem agV(n:Nat):ah Tryz.prog TE (RZ n):=MKS n [] (.c (kG n) .n) @Tryz.func209
theorem SN(n:Nat):ah Tryz.prog TE (ES n):=MKS n [] (.c (kI n) (.c (agV n) .n)) @Tryz.func268
theorem ag6(n:Nat):ah Tryz.prog TE (QH n):=MKS n [] (.c (kG n) .n) @Tryz.func210
theorem SI(n:Nat):ah Tryz.prog TE (EO n):=MKS n [] (.c (kI n) (.c (ag6 n) .n)) @Tryz.func268
theorem agY(n:Nat):ah Tryz.prog TE (RN n):=MKS n [] (.c (tu n) .n) @Tryz.func211
theorem SE(n:Nat):ah Tryz.prog TE (ER n):=MKS n [] (.c (kI n) (.c (agY n) .n)) @Tryz.func268
theorem agM(n:Nat):ah Tryz.prog TE (RV n):=MKS n [(7,.jn [.r 7 .B,.o 2 (.bx [(0,.k (.n .i64 5)),(1,.k (.s ([]:Str))),(2,.lf (.l .ty))])] false)] (.c (fK n) (.c (kG n) (.c (qF n) .n))) @Tryz.func212
theorem SS(n:Nat):ah Tryz.prog TE (EX n):=MKS n [] (.c (kI n) (.c (agM n) .n)) @Tryz.func268
theorem agz(n:Nat):ah Tryz.prog TE (RY n):=MKS n [] (.c (qF n) .n) @Tryz.func213
theorem SF(n:Nat):ah Tryz.prog TE (EP n):=MKS n [] (.c (kI n) (.c (agz n) .n)) @Tryz.func268
theorem aeP(n:Nat):ah Tryz.prog TE (Pe n):=MKS n [] (.c (TM n) .n) @Tryz.func271
theorem agt(n:Nat):ah Tryz.prog TE (Ro n):=MKS n [(7,.jn [.r 3 .B,.o 0 (.bx [(0,.k (.n .i64 5)),(1,.k (.s ([]:Str))),(2,.lf (.l .ty))])] false)] (.c (fK n) (.c (tu n) .n)) @Tryz.func214
theorem tX:∀n,ah Tryz.prog TE (BO n)∧ah Tryz.prog TE (xq n)
 |0=>⟨jR (fn:=Tryz.f58) (by kernel_rfl) fun _=>rfl,jR (fn:=Tryz.f115) (by kernel_rfl) fun _=>rfl⟩
 |n+1=>⟨MKS n [(31,.jn [.r 18 (.ptr 8 0),.r 19 .B,.w (.box [.I,.S,.Lty])] false),(58,.lp [.r 2 .Fd,.w (.own .ty),.r 8 (.own 6),.r 23 .I,.o 0 (.bx [(59,.psl 7 1)]),.o 3 (.dead),.w (.arr .i)] 0 [.r 2 .Fd,.w (.own .ty),.r 8 (.own 6),.o 0 (.bx [(59,.psl 7 1)]),.o 3 (.dead),.w (.arr .i)]),(467,.jn [.r 2 .Fd,.w (.own .ty),.r 8 (.own 8),.o 0 (.bx [(59,.psl 9 1)]),.w (.arr .i),.o 6 .dead,.o 7 .dead] true),(981,.jn [.r 16 (.ptr 9 0),.r 17 .B,.w (.box [.I,.S,.Lty])] false),(29903,.jn [.r 48 .B] false),(478459,.fa [13])] (.c (tX n).2 (.c (ahP n) (.c (fK n) (.c (WK n) (.c (Vw n) (.c (kG n) (.c (aha n) (.c (aaG n) (.c (aic n) (.c (aeK n) (.c (akB n) (.c (akD n) (.c (aeY n) (.c (akC n) (.c (akg n) (.c (aeI n) (.c (agE n) (.c (SV n) (.c (SL n) (.c (aj6 n) (.c (SG n) (.c (ag8 n) (.c (adh n) (.c (abI n) (.c (acA n) (.c (SN n) (.c (SI n) (.c (SE n) (.c (SS n) (.c (SF n) (.c (aeP n) (.c (agt n) .n)))))))))))))))))))))))))))))))) @Tryz.func58,
  MKS n [(15,.jn [.o 0 (.bx [(59,.psl 8 1)]),.o 8 (.arr .i)] false),(122,.ca 8 0 59)] (.c (tX n).1 .n) @Tryz.func115⟩
theorem aaU(n:Nat):ah Tryz.prog TE (BO n):=(tX n).1
theorem OO:∀n,ah Tryz.prog TE (OG n)
 |0=>jR (fn:=Tryz.f60) (by kernel_rfl) fun _=>rfl
 |n+1=>MKS n [(58,.lp [.r 14 .I,.o 2 (.bx [(2,.own 3)]),.w (.own .ty),.o 0 .dead] 0 [.o 2 (.bx [(2,.own 3)]),.w (.own .ty),.o 0 .dead])] (.c (OO n) .n) @Tryz.func60
theorem UO(n:Nat):ah Tryz.prog TE (TU n):=MKS n [(6,.jn [.r 15 .B] false),(500,.fz [7])] (.c (Fv n) (.c (Sr n) (.c (aa0 n) (.c (aaU n) (.c (abt n) (.c (OO n) .n)))))) @Tryz.func27
theorem aao(n:Nat):ah Tryz.prog TE (ZX n):=mk n [(58,.lp [.r 17 .I,.o 2 (.bx [(3,.mapr 1)]),.o 1 (.mp .val)] 0 [.o 2 (.bx [(3,.mapr 1)]),.o 1 (.mp .val)])] (e:=ZX (n)) (inn:=fun y=>some (y.2.1,y.2.2.1,y.2.2.2.1,y.2.2.2.2,y.1)) .n @Tryz.func28 (by kernel_rfl) (by intro z y h;first|(cases h;rfl)|(obtain⟨h1,h2⟩:=(bD h).resolve_right fun h=>(by cases h.2);cases h2;exact Prod.ext (qCD.1 h1).symm rfl)|(obtain⟨h1,h2⟩:=(bD h).resolve_right fun h=>(by cases h.2);cases h2;obtain⟨z1,z2⟩:=z;cases z2;rfl;cases h1)|(simp only[cond]at h;split at h<;>cases h;simp_all)) fun _=>by kernel_rfl
theorem JD(n:Nat):ah Tryz.prog TE (adb n):=MKS n [] .n @Tryz.func122
theorem EJ(n:Nat):ah Tryz.prog TE (Xv n):=mk n [(6,.jn [.r 8 .B] false)] (e:=Xv (n)) (inn:=some) .n @Tryz.func123
theorem MJ(n:Nat):ah Tryz.prog TE (af0 n):=MKS n [] .n @Tryz.func221
theorem U5(n:Nat):ah Tryz.prog TE (Ga n):=MKS n [] (.c (MJ n) .n) @Tryz.func220
theorem Ld(n:Nat):ah Tryz.prog TE (XG n):=MKS n [(3,.jn [.r 2 .B] false)] .n @Tryz.func222
theorem I5(n:Nat):ah Tryz.prog TE (vI n):=MKS n [(31,.jn [.r 6 .I,.r 7 .B] false),(60,.lp [.r 9 .I,.r 10 .I] 0 [.r 9 .I])] (.c (qx n) .n) @Tryz.func274
end
end Abs
end Go.Proofs.YthgdaonechbgmaaGreat
namespace Go.Proofs
open Go.Shelf
def Tryz.FW:Go.Shelf.Ren:=⟨fun|4=>305|n=>n,fun|22=>27|25=>40|3=>3|4=>4|9=>9|20=>20|0=>0|n=>n,fun|n=>n⟩
set_option maxRecDepth 100000 in
theorem Tryz.auJ:Go.Proofs.Lays8.n4 Tryz.prog Tryz.FW:={
 mixed:=by kernel_rfl
 f4:=⟨Tryz.f305.name,by decide,Tryz.func305.trans (congrArg some (by kernel_rfl))⟩
 t0:=Tryz.underlying0
 a0:=Tryz.isAgg0
 z0:=Tryz.sizeOf0
 v0:=Tryz.zeroValue0
 t3:=Tryz.underlying3
 a3:=Tryz.isAgg3
 z3:=Tryz.sizeOf3
 v3:=Tryz.zeroValue3
 t4:=Tryz.underlying4
 a4:=Tryz.isAgg4
 z4:=Tryz.sizeOf4
 v4:=Tryz.zeroValue4
 t9:=Tryz.underlying9
 a9:=Tryz.isAgg9
 z9:=Tryz.sizeOf9
 v9:=Tryz.zeroValue9
 t20:=Tryz.underlying20
 a20:=Tryz.isAgg20
 z20:=Tryz.sizeOf20
 v20:=Tryz.zeroValue20
 t22:=Tryz.underlying27
 a22:=Tryz.isAgg27
 z22:=Tryz.sizeOf27
 v22:=Tryz.zeroValue27}
end Go.Proofs
namespace Go.Proofs.YthgdaonechbgmaaGreat
namespace Abs
section
open Go Go.Proofs Go.Lib
theorem aFa:mQ Tryz.prog 305=true:=by kernel_rfl
theorem azi:(Tryz.prog.info? 40).map (fun i=>(i.zero.map Value.cells,i.size,i.bytes))=some (some #[.int .i64 0,.int .i64 0,.string ⟨#[]⟩,.slice none 0 0],4,56):=by kernel_rfl
theorem ak4(k:Nat)(hk:k*56≤140737488355328):eH Tryz.prog 305 [.slice [] .nils,.int .i64 (k:Int)] [] (.slice [] (.tip 0 4)) [.tip 0]:=by
 intro κ ak w vs hen hvl hr;have hκ:κ=[]:=qAD.1 hen.klen;subst hκ
 match vs,hvl with
 |[v,u],_=>
 have h0:=hr 0 (by simp);have h1:=hr 1 (by simp);simp only[List.getD,qAG,qBp,qAw]at h0 h1;cases h1 with
 |int hw=>
 cases h0 with
 |@slice _ _ a cap b off sz u' g1 g2 g3 g4 g5 g6 g7 g8=>
 obtain⟨rfl,rfl⟩:=g8;have hempty:∀{w':World} {κ':aS} {pv:bU} {a:Option Addr} {cap:Nat},Tf w' κ' a cap 4 (.tip 0 4)→Rel w' κ' pv (.slice [] (.tip 0 4)) (.slice a 0 cap):=fun h=>
  .slice 0 0 4 (fun _ _=>undef) (fun i hi=>by simp at hi) (fun h=>absurd rfl h) (qAZ _) (qAZ _) (fun i j hi=>by simp at hi) (fun i j hi=>by simp at hi) (fun i j hi=>by simp at hi) h
 by_cases h0:k=0
 ·subst h0;have:=Any8.slices_Grow_room Tryz.auJ none 0 0 0 w (qAd _) (qAZ _) (qAZ _) (qAd _);refine Calls.mono this ?_;rintro e w' ⟨rfl,rfl⟩;refine⟨_,[none],rfl,?_,hempty ⟨rfl,.inl ⟨rfl,rfl⟩⟩⟩;have hn:∀l b,at? [none] l≠some b:=fun l b h=>by
   cases l with
   |zero=>cases h
   |succ l=>cases h
  refine⟨rfl,by simp,fun l b h=>(by cases h),fun l h=>?_,fun l b h=>absurd h (hn l b),fun l b h=>absurd h (hn l b),fun l l' b h=>absurd h (hn l b),fun l b h=>absurd h (hn l b),fun b _ _=>rfl,Evo.refl _ _,fun b o h _=>?_,rfl,rfl,rfl⟩
  ·cases l with
   |zero=>rfl
   |succ l=>rfl
  ·rcases h with h|⟨l,h,_⟩
   ·exact .inl h
   ·exact absurd h (hn l b)
 ·obtain⟨i0,hi⟩:∃i0,Tryz.prog.info? 40=some i0:=by
   have:=azi;cases h:Tryz.prog.info? 40 with
   |none=>rw[h]at this;cases this
   |some i=>exact⟨i,rfl⟩
  have hi2:=azi;rw[hi]at hi2;simp only[qAx,Option.some.injEq,Prod.mk.injEq]at hi2;obtain⟨hz,hs,hb⟩:=hi2;obtain⟨z,hz1,hz2⟩:=qBs.1 hz;have:=Any8.slices_Grow_grow Tryz.auJ i0 z hi hz1 (by omega) none 0 0 k [] w (qAd _) (by omega) (by rw[hb];omega) (by omega) (by simp) (fun _=>rfl) (fun a h=>by cases h);refine Calls.mono this ?_;rintro e w' ⟨rfl,rfl⟩;generalize hG:grownCap w (0+k) 0 (Tryz.FW.t 25)=G;have hGk:k≤G:=by have:=grownCap_ge w (0+k) 0 (Tryz.FW.t 25);omega
  generalize hX:(([]:List Value).toArray++Builtin.zeroCells z.cells (0+k - 0)++Builtin.zeroCells z.cells (G - (0+k)))=X;have hXs:X.size=G*4:=by
   rw[←hX];simp only[qCh,size_zeroCells,hz2];simp;omega
  generalize hw2:w.drew.alloc (.cells X (Tryz.FW.t 25))=w2;have hbel:Go.RowKit.Below w.heap.size w w2:=by
   rw[←hw2];exact((qCO _ w).drew).alloc (qAd _) _
  have hnew:w2.heap[w.heap.size]? =some (.cells X (Tryz.FW.t 25)):=by rw[←hw2];exact World.alloc_heap_new w.drew _
  have hsz:w2.heap.size=w.heap.size+1:=by rw[←hw2];exact World.size_alloc _ _
  have a0:∀l b,at? [some w.heap.size] l=some b→l=0∧b=w.heap.size:=fun l b h=>by
   cases l with
   |zero=>cases h;exact⟨rfl,rfl⟩
   |succ l=>cases h
  refine⟨_,[some w.heap.size],rfl,?_,hempty ⟨rfl,.inr ⟨_,X,_,rfl,rfl,hnew,by omega⟩⟩⟩;refine⟨rfl,by simp,fun l b h=>(by cases h),fun l h=>?_,fun l b h _=>?_,fun l b h _=>.inl ?_,fun l l' b h h' _ _=>?_,fun l b h=>?_,fun b hb' _=>hbel.block b hb',?_,fun b o h hlt=>?_,hbel.os,hbel.tape,hbel.output⟩
  ·cases l with
   |zero=>cases h
   |succ l=>rfl
  ·obtain⟨rfl,rfl⟩:=a0 l b h;exact⟨X,_,hnew,by show 0≤X.size;omega⟩
  ·obtain⟨_,rfl⟩:=a0 l b h;exact qAd _
  ·obtain⟨rfl,_⟩:=a0 l b h;obtain⟨rfl,_⟩:=a0 l' b h';rfl
  ·obtain⟨_,rfl⟩:=a0 l b h;omega
  ·exact⟨hbel.size,fun b off u _ hc=>by
    have hlt:=lt_of_cell hc;simp only[World.cell?,hbel.block b hlt]at hc⊢;exact hc,fun b c e z hx=>⟨c,by rw[hbel.block b (qBi.1 hx).1];exact hx,rfl⟩⟩
  ·rcases h with h|⟨l,h,_⟩
   ·exact .inl h
   ·obtain⟨_,rfl⟩:=a0 l b h;omega
theorem aa2(n:Nat):ah Tryz.prog TE (aaZ n):=aj9 aFa (by kernel_rfl) rfl fun(x:Int) y h y' hy=>by
 cases hy;have h:(bif decide ((0:Int)≤(x:Int))&&decide ((x:Int)*56≤140737488355328)then some ([]:List Val)else none)=some y:=h;rcases bD h with⟨h1,h2⟩|⟨_,h2⟩
 ·simp only[qAa,decide_eq_true_eq]at h1;cases h2;obtain⟨k,rfl⟩:∃k:Nat,x=(k:Int):=⟨x.toNat,by omega⟩;exact ak4 k (by omega)
 ·cases h2
end
section
open Go Go.Proofs
set_option maxRecDepth 100000
theorem oI(n:Nat):ah Tryz.prog TE (Tc n):=MKS n [] (.c (I5 n) .n) @Tryz.func224
theorem E9(n:Nat):ah Tryz.prog TE (Fb n):=MKS n [] (.c (oI n) .n) @Tryz.func223
theorem PD(n:Nat):ah Tryz.prog TE (Cr n):=MKS n [] (.c (oI n) .n) @Tryz.func226
theorem aoE(n:Nat):ah Tryz.prog TE (aac n):=MKS n [(58,.lp [.w (.own .val),.r 5 (.own 0),.r 10 .I] 0 [.w (.own .val),.r 5 (.own 0)]),(467,.jn [.w (.own .val),.r 5 (.own 1),.o 0 .dead] false)] (.c (PD n) .n) @Tryz.func128
theorem EY(n:Nat):ah Tryz.prog TE (EN n):=MKS n [] (.c (aoE n) .n) @Tryz.func225
theorem aiT(n:Nat):ah Tryz.prog TE (Uh n):=MKS n [(58,.lp [.w (.own .val),.r 5 (.own 0),.r 10 .I] 0 [.w (.own .val),.r 5 (.own 0)]),(467,.jn [.w (.own .val),.r 5 (.own 1),.o 0 .dead] false)] (.c (E9 n) .n) @Tryz.func128
theorem akq(n:Nat):ah Tryz.prog TE (Uo n):=MKS n [(58,.lp [.w (.own .val),.r 5 (.own 0),.r 10 .I] 0 [.w (.own .val),.r 5 (.own 0)]),(467,.jn [.w (.own .val),.r 5 (.own 1),.o 0 .dead] false)] (.c (EY n) .n) @Tryz.func128
theorem alR(n:Nat):ah Tryz.prog TE (WE n):=MKS n [] (.c (qx n) .n) @Tryz.func229
theorem aiZ(n:Nat):ah Tryz.prog TE (Ti n):=MKS n [(58,.lp [.w (.own .val),.r 5 (.own 1),.r 10 .I] 0 [.w (.own .val),.r 5 (.own 1)]),(467,.jn [.w (.own .val),.r 5 (.own 2),.o 1 .dead] false)] (.c (alR n) .n) @Tryz.func128
theorem aew(n:Nat):ah Tryz.prog TE (O8 n):=mk n [(14,.jn [.r 45 .B] false)] (e:=O8 (n)) (inn:=some) (.c (EJ n) .n) @Tryz.func230
theorem WY(n:Nat):ah Tryz.prog TE (Ip n):=MKS n [(58,.lp [.r 3 .I,.r 11 .I] 0 [.r 3 .I]),(250,.lp [.w (.own .val),.r 6 (.own 1),.r 27 .I,.o 0 .dead] 2 [.w (.own .val),.r 6 (.own 1),.o 0 .dead])] (.c (aa2 n) .n) @Tryz.func279
theorem AL(n:Nat):ah Tryz.prog TE (ZH n):=MKS n [] (.c (oI n) .n) @Tryz.func278
theorem akm(n:Nat):ah Tryz.prog TE (Uz n):=MKS n [(58,.lp [.w (.own .val),.r 5 (.own 1),.r 10 .I] 0 [.w (.own .val),.r 5 (.own 1)]),(467,.jn [.w (.own .val),.r 5 (.own 2),.o 1 .dead] false)] (.c (AL n) .n) @Tryz.func128
theorem apf(n:Nat):ah Tryz.prog TE (Z0 n):=MKS n [] (.c (AL n) .n) @Tryz.func280
theorem akG(n:Nat):ah Tryz.prog TE (Ub n):=MKS n [(58,.lp [.w (.own .val),.r 5 (.own 2),.r 10 .I] 0 [.w (.own .val),.r 5 (.own 2)]),(467,.jn [.w (.own .val),.r 5 (.own 3),.o 2 .dead] false)] (.c (apf n) .n) @Tryz.func128
theorem aom(n:Nat):ah Tryz.prog TE (Z7 n):=MKS n [] (.c (oI n) .n) @Tryz.func281
theorem aiE(n:Nat):ah Tryz.prog TE (Tv n):=MKS n [(58,.lp [.w (.own .val),.r 5 (.own 1),.r 10 .I] 0 [.w (.own .val),.r 5 (.own 1)]),(467,.jn [.w (.own .val),.r 5 (.own 2),.o 1 .dead] false)] (.c (aom n) .n) @Tryz.func128
theorem aae(n:Nat):ah Tryz.prog TE (ZO n):=MKS n [] (.c (oI n) .n) @Tryz.func277
theorem aow(n:Nat):ah Tryz.prog TE (aat n):=MKS n [] (.c (aae n) .n) @Tryz.func282
theorem akr(n:Nat):ah Tryz.prog TE (Uc n):=MKS n [(58,.lp [.w (.own .val),.r 5 (.own 2),.r 10 .I] 0 [.w (.own .val),.r 5 (.own 2)]),(467,.jn [.w (.own .val),.r 5 (.own 3),.o 2 .dead] false)] (.c (aow n) .n) @Tryz.func128
theorem aoQ(n:Nat):ah Tryz.prog TE (ZM n):=MKS n [] (.c (aae n) .n) @Tryz.func283
theorem ajR(n:Nat):ah Tryz.prog TE (Uw n):=MKS n [(58,.lp [.w (.own .val),.r 5 (.own 2),.r 10 .I] 0 [.w (.own .val),.r 5 (.own 2)]),(467,.jn [.w (.own .val),.r 5 (.own 3),.o 2 .dead] false)] (.c (aoQ n) .n) @Tryz.func128
theorem aor(n:Nat):ah Tryz.prog TE (aau n):=MKS n [] (.c (AL n) .n) @Tryz.func284
theorem agZ(n:Nat):ah Tryz.prog TE (Sc n):=MKS n [(58,.lp [.w (.own .val),.r 5 (.own 2),.r 10 .I] 0 [.w (.own .val),.r 5 (.own 2)]),(467,.jn [.w (.own .val),.r 5 (.own 3),.o 2 .dead] false)] (.c (aor n) .n) @Tryz.func128
theorem ao5(n:Nat):ah Tryz.prog TE (ZQ n):=MKS n [] (.c (AL n) .n) @Tryz.func285
theorem ags(n:Nat):ah Tryz.prog TE (RD n):=MKS n [(58,.lp [.w (.own .val),.r 5 (.own 2),.r 10 .I] 0 [.w (.own .val),.r 5 (.own 2)]),(467,.jn [.w (.own .val),.r 5 (.own 3),.o 2 .dead] false)] (.c (ao5 n) .n) @Tryz.func128
theorem Wd(n:Nat):ah Tryz.prog TE (Xw n):=MKS n [(58,.lp [.w (.own .vals),.r 3 (.own 1),.r 11 .I,.o 0 .dead] 0 [.w (.own .vals),.r 3 (.own 1),.o 0 .dead]),(14950,.lp [.w (.own .vals),.r 3 (.own 4),.r 18 .I,.o 1 .dead] 2 [.w (.own .vals),.r 3 (.own 4),.o 1 .dead])] (.c (SK n) (.c (Gb n) .n)) @Tryz.func286
theorem aoU(n:Nat):ah Tryz.prog TE (ZW n):=MKS n [] (.c (AL n) .n) @Tryz.func287
theorem aga(n:Nat):ah Tryz.prog TE (QW n):=MKS n [(58,.lp [.w (.own .val),.r 5 (.own 2),.r 10 .I] 0 [.w (.own .val),.r 5 (.own 2)]),(467,.jn [.w (.own .val),.r 5 (.own 3),.o 2 .dead] false)] (.c (aoU n) .n) @Tryz.func128
theorem afU(n:Nat):ah Tryz.prog TE (afK n):=MKS n [(3,.jn [.r 6 .B] false)] .n @Tryz.func308
theorem amA(n:Nat):ah Tryz.prog TE (Ww n):=MKS n [(122,.lp [.r 7 .I,.r 15 .I] 0 []),(15667,.jn [.r 9 .I] true),(125343,.jn [.r 50 .B] false),(2005423,.jn [.r 30 .B] false)] (.c (afU n) .n) @Tryz.func307
theorem Oi:∀n,ah Tryz.prog TE (aas n)
 |0=>jR (fn:=Tryz.f30) (by kernel_rfl) fun _=>rfl
 |n+1=>MKS n [(31,.fz [2]),(58,.lp [.r 13 .I,.o 0 (.bx [(3,.psl 2 4)]),.o 2 (.arr .val)] 0 [.o 0 (.bx [(3,.psl 2 4)]),.o 2 (.arr .val)])] (.c (JN n) (.c (aaV n) (.c (Oi n) .n))) @Tryz.func30
theorem Xj:∀n,ah Tryz.prog TE (WJ n)
 |0=>jR (fn:=Tryz.f67) (by kernel_rfl) fun _=>rfl
 |n+1=>MKS n [(58,.lp [.r 3 .I] 0 [])] (.c (Xj n) .n) @Tryz.func67
theorem aav:∀n,ah Tryz.prog TE (ZA n)
 |0=>jR (fn:=Tryz.f133) (by kernel_rfl) fun _=>rfl
 |n+1=>MKS n [(122,.lp [.w (.own .s),.r 3 (.own 1),.r 4 .I] 0 [.w (.own .s),.r 3 (.own 1)])] (.c (aav n) .n) @Tryz.func133
theorem zZ(n:Nat):ah Tryz.prog TE (QX n):=MKS n [(26,.lp [.r 5 .I] 0 [])] .n @Tryz.func83
theorem Yk(n:Nat):ah Tryz.prog TE (aie n):=MKS n [(58,.lp [.r 6 .I,.o 1 .dead] 0 [.o 1 .dead])] (.c (aav n) (.c (zZ n) .n)) @Tryz.func68
theorem aoS(n:Nat):ah Tryz.prog TE (aai n):=MKS n [(58,.lp [.w (.own .s),.r 3 (.own 1),.r 4 .I] 0 [.w (.own .s),.r 3 (.own 1)]),(122,.lp [.w (.own .s),.r 3 (.own 2),.r 5 .I,.o 1 .dead] 2 [.w (.own .s),.r 3 (.own 2),.o 1 .dead]),(250,.lp [.w (.own .s),.r 3 (.own 3),.r 6 .I,.o 2 .dead] 4 [.w (.own .s),.r 3 (.own 3),.o 2 .dead])] .n @Tryz.func69
theorem OA(n:Nat):ah Tryz.prog TE (aaz n):=MKS n [(6,.jn [.r 19 .B] false),(58,.lp [.r 3 .I] 0 []),(122,.lp [.r 6 .I] 4 []),(506,.lp [.r 9 .I,.o 0 .dead] 6 [.o 0 .dead]),(3730,.jn [.r 41 .B] false),(3913,.jn [.r 89 .B] false),(14926,.lp [.r 5 .I] 2 [])] (.c (wL n) (.c (akn n) (.c (Ey n) (.c (Xj n) (.c (Yk n) (.c (aoS n) (.c (adK n) .n))))))) @Tryz.func31
theorem XU(n:Nat):ah Tryz.prog TE (ahW n):=mk n [] (e:=ahW (n)) (inn:=some) (.c (Bl n) .n) @Tryz.func129
theorem aag(n:Nat):ah Tryz.prog TE (ZU n):=MKS n [(30,.fz [1]),(58,.lp [.w (.arr .val),.r 3 (.psl 1 4),.r 11 .I,.o 0 .dead] 0 [.w (.arr .val),.r 3 (.psl 1 4),.o 0 .dead])] (.c (Bl n) .n) @Tryz.func275
theorem Lf(n:Nat):ah Tryz.prog TE (WC n):=MKS n [(30,.fz [1]),(58,.lp [.w (.arr .val),.r 3 (.psl 1 4),.r 11 .I,.o 0 .dead] 0 [.w (.arr .val),.r 3 (.psl 1 4),.o 0 .dead])] (.c (Bl n) .n) @Tryz.func276
theorem Ur(n:Nat):ah Tryz.prog TE (Ut n):=MKS n [(26,.lp [.r 15 .I] 0 []),(31,.jn [.r 8 .B] false),(1689,.jn [.r 34 .B] false),(7870,.jn [.r 8 .B] false),(31486,.jn [.r 8 .B] false)] (.c (oI n) (.c (aag n) (.c (Lf n) .n))) @Tryz.func228
theorem EL(n:Nat):ah Tryz.prog TE (EW n):=MKS n [] (.c (Ur n) .n) @Tryz.func227
theorem ah3(n:Nat):ah Tryz.prog TE (Tq n):=MKS n [(58,.lp [.w (.own .val),.r 5 (.own 0),.r 10 .I] 0 [.w (.own .val),.r 5 (.own 0)]),(467,.jn [.w (.own .val),.r 5 (.own 1),.o 0 .dead] false)] (.c (EL n) .n) @Tryz.func128
theorem Ns:∀n,ah Tryz.prog TE (M0 n)
 |0=>jR (fn:=Tryz.f309) (by kernel_rfl) fun _=>rfl
 |n+1=>MKS n [(7,.jn [.o 3 (.bx [(0,.psl 6 4)]),.o 4 (.dead),.w (.arr .val)] false),(10,.jn [.o 3 (.bx [(0,.psl 6 4)]),.o 4 (.dead),.w (.arr .val)] false),(62,.lp [.r 75 .I,.o 3 (.bx [(0,.psl 7 4)]),.w (.arr .val),.o 6 .dead] 4 [.o 3 (.bx [(0,.psl 7 4)]),.w (.arr .val),.o 6 .dead]),(210,.lp [.r 38 .I,.o 3 (.bx [(0,.psl 6 4)]),.o 4 (.dead),.w (.arr .val)] 0 [.o 3 (.bx [(0,.psl 6 4)]),.o 4 (.dead),.w (.arr .val)]),(499,.jn [.o 3 (.bx [(0,.psl 8 4)]),.w (.arr .val),.o 7 .dead] false),(7986,.jn [.r 86 .B] false),(215450,.lp [.w (.own .val),.r 11 (.own 8),.r 46 .I,.o 3 (.bx [(0,.psl 6 4)]),.o 7 .dead] 2 [.w (.own .val),.r 11 (.own 8),.o 3 (.bx [(0,.psl 6 4)]),.o 7 .dead])] (.c (Ur n) (.c (Bl n) (.c (Wd n) (.c (Gb n) (.c (MJ n) (.c (Ns n) (.c (Lf n) (.c (oI n) .n)))))))) @Tryz.func309
theorem agQ(n:Nat):ah Tryz.prog TE (Sg n):=mk n [(15,.jn [.r 7 (.ptr 3 0),.w (.box [.psl 4 4]),.w (.arr .val)] false),(511,.fz [6])] (e:=Sg (n)) (inn:=some) (.c (amA n) (.c (afU n) (.c (Ns n) .n))) @Tryz.func288
theorem atW(n:Nat):ah Tryz.prog TE (ae4 n):=mk n [(63,.jn [.r 11 .Lval,.o 0 .dead,.o 1 .dead,.o 3 .dead,.o 4 .dead,.o 5 .dead,.o 6 .dead] true),(16214,.lp [.w (.own .val),.r 11 (.own 7),.r 12 .I,.o 0 .dead,.o 3 .dead,.o 4 .dead,.o 5 .dead,.o 6 .dead] 1 [.w (.own .val),.r 11 (.own 7),.o 0 .dead,.o 3 .dead,.o 4 .dead,.o 5 .dead,.o 6 .dead]),(4153334,.lp [.w (.own .val),.r 11 (.own 7),.r 86 .I,.o 0 .dead,.o 1 .dead,.o 3 .dead,.o 5 .dead,.o 6 .dead] 3 [.w (.own .val),.r 11 (.own 7),.o 0 .dead,.o 1 .dead,.o 3 .dead,.o 5 .dead,.o 6 .dead]),(33226746,.lp [.w (.own .val),.r 11 (.own 7),.r 118 .I,.o 0 .dead,.o 1 .dead,.o 3 .dead,.o 5 .dead,.o 6 .dead] 7 [.w (.own .val),.r 11 (.own 7),.o 0 .dead,.o 1 .dead,.o 3 .dead,.o 5 .dead,.o 6 .dead]),(1063253606,.lp [.w (.own .val),.r 11 (.own 9),.r 92 .I,.o 7 .dead] 5 [.w (.own .val),.r 11 (.own 9),.o 7 .dead]),(8506047078,.lp [.w (.own .val),.r 11 (.own 9),.r 124 .I,.o 7 .dead] 9 [.w (.own .val),.r 11 (.own 9),.o 7 .dead]),(68048376627,.jn [.w (.own .val),.r 11 (.own 10),.o 9 .dead] false),(68048388086,.lp [.w (.own .val),.r 11 (.own 7),.r 181 .I,.o 0 .dead,.o 1 .dead,.o 3 .dead,.o 4 .dead,.o 5 .dead,.o 6 .dead] 11 [.w (.own .val),.r 11 (.own 7),.o 0 .dead,.o 1 .dead,.o 3 .dead,.o 4 .dead,.o 5 .dead,.o 6 .dead]),(2177548419066,.lp [.w (.own .val),.r 11 (.own 7),.r 203 .I,.o 0 .dead,.o 1 .dead,.o 3 .dead,.o 4 .dead,.o 5 .dead,.o 6 .dead] 13 [.w (.own .val),.r 11 (.own 7),.o 0 .dead,.o 1 .dead,.o 3 .dead,.o 4 .dead,.o 5 .dead,.o 6 .dead])] (e:=ae4 (n)) (inn:=some) (.c (EJ n) (.c (WY n) (.c (akm n) (.c (akG n) (.c (MJ n) (.c (aag n) (.c (aiE n) (.c (qx n) (.c (akr n) (.c (ajR n) (.c (agZ n) (.c (ags n) (.c (Wd n) (.c (Lf n) (.c (aga n) (.c (agQ n) (.c (XU n) .n))))))))))))))))) @Tryz.func231
theorem asy(n:Nat):ah Tryz.prog TE (acP n):=mk n [(491,.jn [.r 105 .B] false)] (e:=acP (n)) (inn:=some) (.c (JD n) (.c (qx n) (.c (MJ n) (.c (aiZ n) (.c (aew n) (.c (EJ n) (.c (atW n) .n))))))) @Tryz.func130
theorem aT:∀n,ah Tryz.prog TE (uQ n)∧ah Tryz.prog TE (uX n)∧ah Tryz.prog TE (vg n)∧ah Tryz.prog TE (DL n)∧ah Tryz.prog TE (Ac n)∧ah Tryz.prog TE (nP n)∧ah Tryz.prog TE (xD n)
 |0=>⟨jR (fn:=Tryz.f127) (by kernel_rfl) fun _=>rfl,jR (fn:=Tryz.f127) (by kernel_rfl) fun _=>rfl,jR (fn:=Tryz.f127) (by kernel_rfl) fun _=>rfl,jR (fn:=Tryz.f219) (by kernel_rfl) fun _=>rfl,jR (fn:=Tryz.f126) (by kernel_rfl) fun _=>rfl,jR (fn:=Tryz.f62) (by kernel_rfl) fun _=>rfl,jR (fn:=Tryz.f125) (by kernel_rfl) fun _=>rfl⟩
 |n+1=>⟨mk n [(107,.fz [5]),(127,.fz [3,5,7]),(245,.fz [5])] (e:=uQ (n+1)) (inn:=some) (.c (Ld n) (.c (aT n).2.2.2.2.2.1 .n)) @Tryz.func127,
  mk n [(107,.fz [5]),(127,.fz [3,5,7]),(245,.fz [5])] (e:=uX (n+1)) (inn:=some) (.c (Ld n) (.c (aT n).2.2.2.2.2.1 .n)) @Tryz.func127,
  mk n [(107,.fz [5]),(127,.fz [3,5,7]),(245,.fz [5])] (e:=vg (n+1)) (inn:=some) (.c (Ld n) (.c (aT n).2.2.2.2.2.1 .n)) @Tryz.func127,
  mk n [(31,.ca 12 0 4),(122,.lp [.r 31 .I,.o 0 (.bx [(4,.psl 12 5)]),.o 4 (.bx [(0,.psl 13 4)]),.o 5 (.dead),.o 6 (.bx [(0,.lf .b)]),.o 7 (.bx [(0,.lf .b)]),.w (.arr .bnd),.w (.arr .val),.o 9 .dead,.o 10 .dead,.o 11 .dead] 0 [.o 0 (.bx [(4,.psl 12 5)]),.o 4 (.bx [(0,.psl 13 4)]),.o 5 (.dead),.o 6 (.bx [(0,.lf .b)]),.o 7 (.bx [(0,.lf .b)]),.w (.arr .bnd),.w (.arr .val),.o 9 .dead,.o 10 .dead,.o 11 .dead])] (e:=DL (n+1)) (inn:=some) (.c (aT n).2.2.2.2.2.1 (.c (U5 n) .n)) @Tryz.func219,
  mk n [(7,.jn [.r 7 (.ptr 7 0),.w (.box [.psl 8 4]),.w (.arr .val)] false),(126,.fz [10])] (e:=Ac (n+1)) (inn:=some) (.c (aT n).2.2.2.1 (.c (JD n) (.c (XU n) .n))) @Tryz.func126,
  mk n [(26,.jn [.r 18 .B] false),(250,.lp [.r 123 .I,.o 0 (.bx [(4,.psl 6 5)]),.o 2 (.dead),.o 5 (.bx [(0,.lf (.n .i64)),(1,.lf (.n .i64)),(2,.lf .s),(3,.lf (.l .val)),(4,.lf (.n .i64)),(5,.lf (.n .i64)),(6,.lf .s),(7,.lf (.l .val))]),.w (.arr .bnd)] 3 [.o 0 (.bx [(4,.psl 6 5)]),.o 2 (.dead),.o 5 (.bx [(0,.lf (.n .i64)),(1,.lf (.n .i64)),(2,.lf .s),(3,.lf (.l .val)),(4,.lf (.n .i64)),(5,.lf (.n .i64)),(6,.lf .s),(7,.lf (.l .val))]),.w (.arr .bnd)]),(1962,.lp [.w (.own .val),.r 10 (.own 6),.r 106 .I,.o 0 (.bx [(4,.psl 7 5)]),.o 2 (.dead),.w (.arr .bnd),.o 3 .dead,.o 5 .dead] 1 [.w (.own .val),.r 10 (.own 6),.o 0 (.bx [(4,.psl 7 5)]),.o 2 (.dead),.w (.arr .bnd),.o 3 .dead,.o 5 .dead]),(2003,.jn [.o 0 (.bx [(4,.psl 7 5)]),.o 5 (.bx [(0,.lf (.n .i64)),(1,.lf (.n .i64)),(2,.lf .s),(3,.lf (.l .val)),(4,.lf (.n .i64)),(5,.lf (.n .i64)),(6,.lf .s),(7,.lf (.l .val))]),.w (.arr .bnd),.o 6 .dead] true),(6911,.jn [.r 39 .B] false),(27647,.jn [.r 46 .B] false),(110591,.jn [.r 54 .B] false)] (e:=nP (n+1)) (inn:=some) (.c (JD n) (.c (EJ n) (.c (Zp n) (.c (aT n).2.2.2.2.2.2 (.c (aT n).2.2.2.2.1 (.c (aT n).2.2.2.2.2.1 (.c (aT n).2.2.1 (.c (E9 n) (.c (aT n).2.1 (.c (EY n) (.c (aT n).1 (.c (EL n) (.c (aiT n) (.c (akq n) (.c (ah3 n) (.c (XU n) (.c (asy n) .n))))))))))))))))) @Tryz.func62,
  mk n [(28,.jn [.r 14 .B] false),(115,.jn [.r 23 .B] false),(230,.jn [.r 23 .B] false)] (e:=xD (n+1)) (inn:=some) (.c (aT n).2.2.2.2.2.1 (.c (JD n) .n)) @Tryz.func125⟩
theorem acv(n:Nat):ah Tryz.prog TE (nP n):=(aT n).2.2.2.2.2.1
end
section
open Go Go.Proofs
theorem aHx:mQ Tryz.prog 29=true:=by kernel_rfl
section
variable (n:Nat)(tm:Tm)(cs:List Carrier)(ds:List Decl)(sz:List Int)(mp:List (Str×Val))(bs z:List Bound)(c:Nat)(v:Int)(r:Val)
def h35:List TObj:=[.box [.lf (.l .car) cs,.lf (.l .dec) ds,.lf (.l .i) sz,.mapr 1,.psl 2 5 none],.mp .val mp,.arr .bnd bs]
def t35:List TV:=[.ptr 0 0,.lf (.t .tm) tm,.tup [],.tup [],.tup [],.tup [],.tup [],.tup [],.tup [],.tup [],.tup [],.tup [],.tup [],.tup [],.tup [],.tup []]
def tA:List TV:=[.ptr 0 0,.lf (.t .tm) tm,.ptr 3 0,.ptr 4 0,.ptr 5 0,.ptr 6 0,.tup [],.tup [],.tup [],.tup [],.tup [],.tup [],.tup [],.tup [],.tup [],.tup []]
def hA:List TObj:=[.box [.lf (.l .car) cs,.lf (.l .dec) ds,.lf (.l .i) sz,.mapr 1,.psl 2 5 none],.mp .val mp,.arr .bnd bs,.box [.ptr 0 0],.box [.lf (.t .tm) tm],.box [.lf (.n .i64) 0,.lf (.n .i64) 0,.lf .s [],.nils],.box [.lf (.n .i64) 0]]
def tB(x:TV):List TV:=[.ptr 0 0,.lf (.t .tm) tm,.ptr 3 0,.ptr 4 0,.ptr 5 0,.ptr 6 0,.ptr 7 0,.ptr 0 0,.ptr 0 0,.ptr 0 4,.psl 2 5 none,.nat bs.length,x,.tup [],.tup [],.tup []]
def hB:List TObj:=[.box [.lf (.l .car) cs,.lf (.l .dec) ds,.lf (.l .i) sz,.mapr 1,.psl 2 5 none],.mp .val mp,.arr .bnd bs,.box [.ptr 0 0],.box [.lf (.t .tm) tm],.box [.lf (.n .i64) 0,.lf (.n .i64) 0,.lf .s [],.nils],.box [.lf (.n .i64) 0],.box [.lf (.n .i64) (bs.length:Int)]]
def tP:List TV:=[.ptr 0 0,.lf (.t .tm) tm,.ptr 3 0,.ptr 4 0,.ptr 5 0,.ptr 6 0,.ptr 7 0,.ptr 0 0,.ptr 0 0,.ptr 0 4,.psl 2 5 none,.nat bs.length,.unk,.ptr 0 0,.lf (.t .tm) tm,.tup []]
noncomputable def agG(t:List TV)(h:List TObj):DS:=⟨t,h,[],[],[],[],[],[]⟩
noncomputable def Zz:Code:=bdy Tryz.f29
noncomputable def o35:List Oper:=opsOf (cL (cR (cR (cR Zz))))
theorem qA:exe ⟨τ,θ,n,Unit,[],3,TE,fun _ _=>none⟩ [] (fun _=>none) (cL Zz) (List TV×List TObj) 2 (agG (t35 tm) (h35 cs ds sz mp bs)) (fun _=>none) (fun e s=>match e with| .normal=>some (s.t,s.h)|_=>none)=some (tA tm,hA tm cs ds sz mp bs):=by kernel_rfl
theorem qB:exe ⟨τ,θ,n,Unit,[],3,TE,fun _ _=>none⟩ [] (fun _=>none) (cL (cR Zz)) (List TV×List TObj) 6 (agG (tA tm) (hA tm cs ds sz mp bs)) (fun _=>none) (fun e s=>match e with| .normal=>some (s.t,s.h)|_=>none)=some (tB tm bs (.tup []),hB tm cs ds sz mp bs):=by kernel_rfl
theorem qI:exe ⟨τ,θ,n,Val×Int×List Bound,[],3,TE,fun _ _=>none⟩ [nP n] (yK τ 3 Tryz.f29.results.toList (jH n).rs some) (cR (cR (cR Zz))) (Val×Int×List Bound) 15 (agG (tB tm bs .unk) (hB tm cs ds sz mp bs)) some
  (fun e s=>match e with| .normal=>yK τ 3 Tryz.f29.results.toList (jH n).rs some s|_=>none)=
  (aM n cs ds sz mp bs tm).bind (PZ.el (fun x=>some (x.1,0,x.2)) fun _ _=>none):=by kernel_rfl
theorem qP:Jk (agG (tB tm bs .unk) (hB tm cs ds sz mp bs)).h 0 (fun n'=>XQ τ θ [nP n] (fun _ _ _ _ v s=>some (v,s)) o35 o35 n' [] {agG (tB tm bs .unk) (hB tm cs ds sz mp bs)with h:=(agG (tB tm bs .unk) (hB tm cs ds sz mp bs)).h++y8 (zT o35)} fun _ _=>none)=
  (aM n cs ds sz mp bs tm).bind (PZ.el (fun _=>none) fun v z=>some (v,⟨tP tm bs,hP tm cs ds sz mp bs z++y8 4,[14,13],[(2,0),(0,5),(8,0)],[],[],[],[]⟩)):=by kernel_rfl
theorem qR:yK τ 3 Tryz.f29.results.toList (jH n).rs some ⟨tP tm bs,hC tm cs ds sz mp bs z c v,[],[(2,0),(0,5)],[],[],[],[]⟩=some (Val.mk 0 0 [] [],v,z.take c):=by kernel_rfl
end
theorem az9(cs:List Carrier)(ds:List Decl)(sz:List Int)(mp:List (Str×Val))(bs:List Bound)(tm:Tm)(t:List TV):St 3 (h35 cs ds sz mp bs) (agG t (hB tm cs ds sz mp bs)):=
 ⟨(wW (m:=0) (h:=hB tm cs ds sz mp bs) (t:=t) (qAZ _)).inv,qAf rfl,fun l hl _=>by
  match l,hl with
  |0,_=>exact .inl rfl
  |1,_=>exact .inl rfl
  |2,_=>exact .inl rfl⟩
theorem OV(n:Nat):ah Tryz.prog TE (jH n):=by
 refine⟨aHx,by kernel_rfl,fun x y hF t h hb=>?_⟩;obtain⟨tm,cs,ds,sz,mp,bs⟩:=x;obtain⟨rfl,rfl⟩:t=[.ptr 0 0,.lf (.t .tm) tm]∧h=h35 cs ds sz mp bs:=⟨(congrArg Prod.fst hb).symm,(congrArg Prod.snd hb).symm⟩;clear hb;show ∀r h',dW bS (jH n).rs (fF _ ((jH n).out y)) (dM 2) (h35 cs ds sz mp bs)=(r,h')→eH Tryz.prog 29 (aU (h35 cs ds sz mp bs) [.ptr 0 0,.lf (.t .tm) tm]) (aB (h35 cs ds sz mp bs)) (av h' (res1 r)) (aB h');intro r h' hb2;have hE:∀e'∈[nP n],ah Tryz.prog TE e':=fun e' he=>by
  rw[qAK.1 he];exact acv n
 have hte:uf Tryz.prog TE=true:=by kernel_rfl
 have hmix:Tryz.prog.follows .mixedOrders=true:=by kernel_rfl
 have hr0:AW Tryz.prog 3 (cL Zz) (nrm 3 (aU (hA tm cs ds sz mp bs) (tA tm)) (aB (hA tm cs ds sz mp bs))) (aU (h35 cs ds sz mp bs) (t35 tm)) (aB (h35 cs ds sz mp bs)):=
  WM yJ (fun e he=>by cases he) hte hmix (wW (h:=h35 cs ds sz mp bs) (qAd 3)) (qA n tm cs ds sz mp bs)
 have hr1:AW Tryz.prog 3 (cL (cR Zz)) (nrm 3 (aU (hB tm cs ds sz mp bs) (tB tm bs (.tup []))) (aB (hB tm cs ds sz mp bs))) (aU (hA tm cs ds sz mp bs) (tA tm)) (aB (hA tm cs ds sz mp bs)):=
  WM yJ (fun e he=>by cases he) hte hmix (wW (h:=hA tm cs ds sz mp bs) (qAf rfl)) (qB n tm cs ds sz mp bs)
 have hF:rW n cs ds sz mp bs tm=some y:=hF;unfold rW at hF;have ret:=fun(s:DS) (hst:St 3 (h35 cs ds sz mp bs) s) (hs:yK τ 3 Tryz.f29.results.toList (jH n).rs some s=some y)=>
  ad9 (h:=[]) (P:=Tryz.prog) (e:=jH n) (rvs:=Tryz.f29.results.toList) (out:=(jH n).out) (inn:=some) sm (by kernel_rfl) (h0:=h35 cs ds sz mp bs) rfl rfl rfl hst (by rw[←yJ];exact hs) hb2
 have hjl:3≤h'.length:=by
  have e2:_=h':=congrArg Prod.snd hb2;rw[←e2];exact qAf rfl
 cases he:aM n cs ds sz mp bs tm with
 |none=>rw[he]at hF;cases hF
 |some o=>
  rw[he]at hF;cases o with
  |ok x=>
   have hy:y=(x.1,0,x.2):=(Option.some.inj hF).symm;refine aoH (f:=29) (d:=61) (n:=12) (b:=Zz) (r3:=cR (cR (cR Zz))) (TB:=aU (hB tm cs ds sz mp bs) (tB tm bs (.tup []))) (HB:=aB (hB tm cs ds sz mp bs)) Tryz.func29 rfl (qAf rfl) rfl rfl rfl rfl rfl rfl (qAf rfl) ayL (fun xs w hx=>aGY xs w (by simpa using hx)) (.cons hr0 (.cons hr1 .nil)) hjl ?_;exact aFf yJ hE hte hmix (az9 cs ds sz mp bs tm _) ((qI n tm cs ds sz mp bs).trans (by rw[he,hy];rfl)) ret
  |er v z=>
   have hF:(bif decide ((0:Int)≤v)&&decide (v≤1000)then((FJ (List.length z) (List.length bs:Int)).bind fun c=>bif Nat.ble c (List.length z)then some (Val.mk 0 0 ([]:Str) [],v,List.take c z)else none)else none)=some y:=hF;obtain⟨hv,hF⟩:=(bD hF).resolve_right fun h=>by cases h.2
   simp only[qAa,decide_eq_true_eq]at hv;obtain⟨c,hc,hF⟩:=ob hF;obtain⟨hble,hF⟩:=(bD hF).resolve_right fun h=>by cases h.2
   have hy:y=(Val.mk 0 0 [] [],v,z.take c):=(Option.some.inj hF).symm;refine aoM (f:=29) (d:=61) (n:=12) (b:=Zz) (r3:=cR (cR (cR Zz))) (TB:=aU (hB tm cs ds sz mp bs) (tB tm bs (.tup []))) (HB:=aB (hB tm cs ds sz mp bs)) (TP:=aU (hP tm cs ds sz mp bs z) (tP tm bs)) (HP:=aB (hP tm cs ds sz mp bs z)) Tryz.func29 rfl (qAf rfl) rfl rfl rfl rfl rfl rfl (qAf rfl) ayL (.cons hr0 (.cons hr1 .nil)) hjl ?_ (by exact aIT tm cs ds sz mp bs z c v hv hc hble) ?_
   ·refine AW.seq (x:=.region 3 o35.toArray false) (y:=.ret) ((axN (id:=3) yJ hE (az9 cs ds sz mp bs tm _).inv ((qP n tm cs ds sz mp bs).trans (by rw[he];rfl))).mono fun e t h hq=>?_);obtain⟨rfl,rfl,rfl⟩:=hq;exact⟨rfl,auK (aU (hP tm cs ds sz mp bs z) (tP tm bs)) (aB (hP tm cs ds sz mp bs z)) 4⟩
   ·refine ret ⟨tP tm bs,hC tm cs ds sz mp bs z c v,[],[(2,0),(0,5)],[],[],[],[]⟩ ⟨⟨fun i k c h1=>(by cases h1),fun d i j h1=>(by cases h1),fun d x h1=>(by cases h1)⟩,qAf rfl,fun l hl hno=>?_⟩ (hy▸qR n tm cs ds sz mp bs z c v)
    match l,hl with
    |0,_=>
     refine .inr ⟨_,_,rfl,rfl,rfl,fun q hq=>?_⟩
     match q with
     |0=>rfl
     |1=>rfl
     |2=>rfl
     |3=>rfl
     |4=>cases hq
     |q+5=>rfl
    |1,_=>exact .inl rfl
    |2,_=>exact absurd (by simp) hno
end
section
open Go Go.Proofs
set_option maxRecDepth 100000
theorem agB(n:Nat):ah Tryz.prog TE (arS n):=MKS n [] .n @Tryz.func21
end
section
open Go Go.Proofs
set_option maxRecDepth 100000
theorem ts_R3_SameValue:∀n,ah Tryz.prog TE (LG n)∧ah Tryz.prog TE (Kg n)
 |0=>⟨jR (fn:=Tryz.f13) (by kernel_rfl) fun _=>rfl,jR (fn:=Tryz.f35) (by kernel_rfl) fun _=>rfl⟩
 |n+1=>⟨MKS n [(3,.jn [.r 4 .B] false)] (.c (ts_R3_SameValue n).2 .n) @Tryz.func13,
  MKS n [(58,.lp [.r 5 .I] 0 [])] (.c (ts_R3_SameValue n).1 .n) @Tryz.func35⟩
theorem za(n:Nat):ah Tryz.prog TE (LG n):=(ts_R3_SameValue n).1
theorem t_eval_copyType:∀n,ah Tryz.prog TE (e_eval_copyType n)
 |0=>jR (fn:=Tryz.f96) (by kernel_rfl) fun _=>rfl
 |n+1=>MKS n [(31,.fz [2]),(58,.lp [.r 13 .I,.o 0 (.bx [(2,.psl 2 3)]),.o 2 (.arr .ty)] 0 [.o 0 (.bx [(2,.psl 2 3)]),.o 2 (.arr .ty)])] (.c (t_slices_Clone_Type n) (.c (t_slices_Clip_Type n) (.c (t_eval_copyType n) .n))) @Tryz.func96
theorem anO(n:Nat):ah Tryz.prog TE (anh n):=MKS n [(58,.lp [.r 5 .I] 0 []),(1865,.jn [.r 49 .B] false)] .n @Tryz.func40
theorem azB(n:Nat):ah Tryz.prog TE (an2 n):=MKS n [] .n @Tryz.func157
theorem QU:∀n,ah Tryz.prog TE (ac6 n)
 |0=>jR (fn:=Tryz.f84) (by kernel_rfl) fun _=>rfl
 |n+1=>MKS n [(506,.lp [.r 5 .I] 0 []),(2024,.jn [.r 48 .B] false)] (.c (azB n) (.c (QU n) .n)) @Tryz.func84
theorem ag5:∀n,ah Tryz.prog TE (aqN n)
 |0=>jR (fn:=Tryz.f41) (by kernel_rfl) fun _=>rfl
 |n+1=>MKS n [(14,.jn [.r 164 .B] false),(106,.jn [.r 8 .B] false),(122,.lp [.r 9 .I] 1 []),(430,.jn [.r 8 .B] false),(1726,.jn [.r 8 .B] false),(1956,.jn [.r 203 .B] false),(6910,.jn [.r 8 .B] false)] (.c (zZ n) (.c (ag5 n) (.c (QU n) .n))) @Tryz.func41
theorem Uk(n:Nat):ah Tryz.prog TE (Uj n):=MKS n [(6,.jn [.r 25 .B] false),(58,.lp [.r 3 .I] 0 [])] (.c (OA n) (.c (anO n) (.c (ag5 n) .n))) @Tryz.func18
theorem amf(n:Nat):ah Tryz.prog TE (Xi n):=MKS n [] (.c (acI n) .n) @Tryz.func94
theorem NY(n:Nat):ah Tryz.prog TE (zC n):=MKS n [(26,.lp [.r 8 .I] 0 [])] (.c (amf n) .n) @Tryz.func166
theorem Jy(n:Nat):ah Tryz.prog TE (xg n):=MKS n [] (.c (NY n) .n) @Tryz.func92
theorem arB(n:Nat):ah Tryz.prog TE (abY n):=MKS n [(3,.jn [.r 4 .B] false)] (.c (uP n) (.c (Fu n) (.c (Jy n) .n))) @Tryz.func43
theorem t_eval_wide(n:Nat):ah Tryz.prog TE (e_eval_wide n):=MKS n [(58,.lp [.w (.own .i),.r 3 (.own 1),.r 9 .I,.o 0 .dead] 0 [.w (.own .i),.r 3 (.own 1),.o 0 .dead]),(467,.jn [.w (.own .i),.r 3 (.own 2),.o 1 .dead] false)] .n @Tryz.func45
end
section
open Go Go.Proofs
set_option maxRecDepth 100000
theorem t_eval_literal:∀n,ah Tryz.prog TE (e_eval_literal n)
 |0=>jR (fn:=Tryz.f47) (by kernel_rfl) fun _=>rfl
 |n+1=>mk n [(250,.lp [.r 92 .I,.o 4 (.bx [(6,.own 5)]),.w (.own .tm),.o 1 .dead] 1 [.o 4 (.bx [(6,.own 5)]),.w (.own .tm),.o 1 .dead])] (e:=e_eval_literal (n+1)) (inn:=some) (.c (acI n) (.c (t_eval_literal n) (.c (t_eval_copyType n) (.c (t_slices_Clip_Term_s n) .n)))) @Tryz.func47
theorem FM(n:Nat):ah Tryz.prog TE (afM n):=MKS n [] .n @Tryz.func22
theorem azf(n:Nat):ah Tryz.prog TE (aoi n):=MKS n [(3,.jn [.r 2 .B] false)] (.c (Va n) (.c (Ph n) .n)) @Tryz.func98
theorem aff(n:Nat):ah Tryz.prog TE (Vi n):=MKS n [(6,.jn [.r 17 .B] false),(122,.lp [.r 3 .I,.r 4 .I] 0 [.r 3 .I])] (.c (Ph n) .n) @Tryz.func102
theorem az2(n:Nat):ah Tryz.prog TE (anA n):=MKS n [(58,.lp [.r 6 .I] 0 []),(932,.jn [.r 40 .B] false)] (.c (adK n) .n) @Tryz.func103
theorem ahk(n:Nat):ah Tryz.prog TE (ahm n):=mk n [(12,.lp [.r 1 .I] 0 [.r 1 .I]),(48,.jn [.r 29 .B] false),(124,.lp [.r 5 .I] 2 [.r 5 .I]),(496,.jn [.r 48 .B] false),(508,.jn [.r 55 .B] false),(2035,.jn [.r 67 .B] false),(32574,.jn [.r 6 .S] false),(32575,.jn [.r 103 .B] false),(65148,.jn [.r 94 .B] false)] (e:=ahm (n)) (inn:=fun y=>some (S_refinementref01_token.mk y.1 y.2.1 y.2.2)) (.c (azf n) (.c (Va n) (.c (acN n) (.c (Ph n) (.c (aff n) (.c (az2 n) .n)))))) @Tryz.func49 (by kernel_rfl) (by intro z y h;first|(cases h;rfl)|(obtain⟨h1,h2⟩:=(bD h).resolve_right fun h=>(by cases h.2);cases h2;exact Prod.ext (qCD.1 h1).symm rfl)|(obtain⟨h1,h2⟩:=(bD h).resolve_right fun h=>(by cases h.2);cases h2;obtain⟨z1,z2⟩:=z;cases z2;rfl;cases h1)|(simp only[cond]at h;split at h<;>cases h;simp_all)) fun _=>by kernel_rfl
theorem yH(n:Nat):ah Tryz.prog TE (Lg n):=MKS n [] .n @Tryz.func52
theorem XH(n:Nat):ah Tryz.prog TE (KJ n):=MKS n [(3,.jn [.r 4 .B] false)] .n @Tryz.func104
theorem Qz(n:Nat):ah Tryz.prog TE (Rt n):=MKS n [] (.c (yH n) .n) @Tryz.func172
theorem Hy(n:Nat):ah Tryz.prog TE (GK n):=MKS n [(1,.jn [.o 0 (.bx [(4,.lf (.n .i64)),(5,.lf (.n .i64)),(6,.lf (.n .i64))])] false),(3,.jn [.o 0 (.bx [(4,.lf (.n .i64))])] false)] (.c (adK n) (.c (Qz n) (.c (ahk n) .n))) @Tryz.func105
theorem yx(n:Nat):ah Tryz.prog TE (FE n):=MKS n [] (.c (Qz n) .n) @Tryz.func108
theorem ahE(n:Nat):ah Tryz.prog TE (GV n):=MKS n [] (.c (yH n) (.c (XH n) (.c (yx n) (.c (Hy n) .n)))) @Tryz.func261
theorem YT(n:Nat):ah Tryz.prog TE (zS n):=MKS n [(7,.jn [.r 2 .B] false)] (.c (ahk n) .n) @Tryz.func300
theorem aoX(n:Nat):ah Tryz.prog TE (ZR n):=MKS n [] .n @Tryz.func302
theorem alQ(n:Nat):ah Tryz.prog TE (WW n):=MKS n [] .n @Tryz.func303
theorem aAu(n:Nat):ah Tryz.prog TE (anX n):=MKS n [] .n @Tryz.func304
theorem att(n:Nat):ah Tryz.prog TE (afy n):=MKS n [] (.c (aoX n) (.c (alQ n) (.c (aAu n) .n))) @Tryz.func262
theorem Zi(n:Nat):ah Tryz.prog TE (AA n):=MKS n [(6,.jn [.r 20 .B] false)] (.c (att n) .n) @Tryz.func175
theorem ahB(n:Nat):ah Tryz.prog TE (GZ n):=MKS n [(30,.jn [.r 21 .B] false)] (.c (yH n) (.c (U9 n) (.c (yx n) (.c (Hy n) .n)))) @Tryz.func301
end
section
open Go Go.Proofs
set_option maxRecDepth 100000
theorem aur(n:Nat):ah Tryz.prog TE (Vk n):=MKS n [(58,.lp [.r 4 .I] 0 [])] .n @Tryz.func260
end
section
open Go Go.Proofs
set_option maxRecDepth 100000
theorem ah0(n:Nat):ah Tryz.prog TE (Je n):=MKS n [(1,.jn [.r 11 .B] false)] (.c (yH n) (.c (yx n) .n)) @Tryz.func51
theorem acj(n:Nat):ah Tryz.prog TE (NI n):=MKS n [(14,.jn [.r 21 .B] false)] (.c (UO n) .n) @Tryz.func53
end
section
open Go Go.Proofs
set_option maxRecDepth 100000
theorem BD(n:Nat):ah Tryz.prog TE (afZ n):=MKS n [(6,.jn [.r 18 .B] false)] (.c (OJ n) (.c (Sr n) (.c (UO n) (.c (aao n) (.c (OV n) (.c (Oi n) .n)))))) @Tryz.func9
theorem t_eval_interp_holds(n:Nat):ah Tryz.prog TE (e_eval_interp_holds n):=MKS n [(7,.jn [.r 4 .B,.r 5 .I] false)] (.c (OV n) .n) @Tryz.func54
theorem zx(n:Nat):ah Tryz.prog TE (ac3 n):=MKS n [(6,.jn [.r 14 .B] false)] (.c (OJ n) (.c (Sr n) (.c (acj n) (.c (aao n) (.c (t_eval_interp_holds n) .n))))) @Tryz.func24
end
section
open Go Go.Proofs
set_option maxRecDepth 100000
noncomputable def P1(n:Nat)(E:List Ent)(fn:Func)(f na:Nat)(ps:List Ed)(nr:Nat)(rs:List Ed)(hs:List (Nat×Hn)):Ent:=
 ⟨f,na,ps,nr,rs,jI (bM rs),none,none,fun x=>amq τ θ n hs E TE fn ⟨f,na,ps,nr,rs,jI (bM rs),none,none,fun _=>none,fun r=>r⟩ some x,fun r=>r⟩
theorem mkP{n:Nat}{E:List Ent}{fn:Func}{f na:Nat}{ps:List Ed}{nr:Nat}{rs:List Ed}{hs:List (Nat×Hn)}(hE:EOs Tryz.prog TE E)(hf:Tryz.prog.funcs[f]? =some fn)(hc:amg Tryz.prog fn (P1 n E fn f na ps nr rs hs)=true):ah Tryz.prog TE (P1 n E fn f na ps nr rs hs):=
 mk n hs (e:=P1 n E fn f na ps nr rs hs) (inn:=some) hE hf hc (fun z y h=>by cases h;rfl) fun _=>rfl
theorem EOs.app{P:Program}{te:Nat}{l m:List Ent}(h:EOs P te l)(k:EOs P te m):EOs P te (l++m):=by
 induction h with
 |n=>exact k
 |c h _ ih=>exact .c h ih
abbrev pi:Sk:=.lf (.n .i64)
abbrev pbx:Ed:=.w (.box [.S,pi,.S,pi,pi,pi,pi])
abbrev NW:Ed:=.o 0 (.bx [(1,pi),(2,.lf .s),(3,pi),(4,pi),(5,pi),(6,pi)])
def PB(n:Nat):List Ent:=[Vz n,X5 n,Vi n,ahm n,Je n,zS n,KJ n,GV n,GZ n,Lg n,AA n,GK n,FE n,Vk n]
theorem aDl(n:Nat):EOs Tryz.prog TE (PB n):=.c (U9 n) (.c (Ad n) (.c (aff n) (.c (ahk n) (.c (ah0 n) (.c (YT n) (.c (XH n) (.c (ahE n) (.c (ahB n) (.c (yH n) (.c (Zi n) (.c (Hy n) (.c (yx n) (.c (aur n) (.n))))))))))))))
noncomputable def PR(n:Nat)(E:List Ent):List Ent:=
 [P1 n E Tryz.f299 299 1 [.r 0 (.ptr 0 0),pbx] 1 [.r 0 .Tty,NW] [(115,.jn [.r 16 .B] false)],
  P1 n E Tryz.f259 259 2 [.r 0 (.ptr 0 0),.r 1 (pi),pbx] 1 [.r 0 .Ttm,NW] [],
  P1 n E Tryz.f107 107 3 [.r 0 (.ptr 0 0),.r 1 .Ttm,.r 2 (pi),pbx] 1 [.r 0 .Ttm,NW] [(12,.lp [NW,.o 1 (.bx [(0,pi),(1,.lf .s),(2,pi),(3,pi),(4,.lf .s),(5,.lf (.l .ty)),(6,.lf (.l .tm))])] 0 [NW,.o 1 (.bx [(0,pi),(1,.lf .s),(2,pi),(3,pi),(4,.lf .s),(5,.lf (.l .ty)),(6,.lf (.l .tm))])]),(6330,.jn [.r 19 .B] false)],
  P1 n E Tryz.f258 258 1 [.r 0 (.ptr 0 0),pbx] 1 [.r 0 .Ttm,NW] [(31,.jn [NW,.o 2 (.bx [(0,pi),(1,.lf .s),(2,pi),(3,pi),(4,.lf .s),(5,.lf (.l .ty)),(6,.lf (.l .tm))]),.o 3 .dead] true),(62,.jn [.r 42 .B] false),(508,.lp [NW,.o 5 (.bx [(6,.own 6)]),.w (.own .tm),.o 2 .dead,.o 4 .dead] 2 [NW,.o 5 (.bx [(6,.own 6)]),.w (.own .tm),.o 2 .dead,.o 4 .dead]),(2032,.jn [.r 89 .B] false),(4014,.jn [.r 54 .B] false),(32126,.lp [.r 8 (pi),NW,.o 2 (.bx [(0,pi),(1,.lf .s),(2,pi),(3,pi),(4,.lf .s),(5,.lf (.l .ty)),(6,.lf (.l .tm))]),.o 3 .dead,.o 4 .dead,.o 5 .dead] 0 [NW,.o 2 (.bx [(0,pi),(1,.lf .s),(2,pi),(3,pi),(4,.lf .s),(5,.lf (.l .ty)),(6,.lf (.l .tm))]),.o 3 .dead,.o 4 .dead,.o 5 .dead])],
  P1 n E Tryz.f173 173 1 [.r 0 (.ptr 0 0),pbx] 1 [.r 0 .Ttm,NW] [(30408703,.jn [.r 73 .B] false)],
  P1 n E Tryz.f106 106 1 [.r 0 (.ptr 0 0),pbx] 1 [.r 0 .Ttm,NW] [(28,.lp [NW,.o 2 (.bx [(0,pi),(1,.lf .s),(2,pi),(3,pi),(4,.lf .s),(5,.lf (.l .ty)),(6,.lf (.l .tm))])] 0 [NW,.o 2 (.bx [(0,pi),(1,.lf .s),(2,pi),(3,pi),(4,.lf .s),(5,.lf (.l .ty)),(6,.lf (.l .tm))])])],
  P1 n E Tryz.f50 50 2 [.r 0 (.ptr 0 0),.r 1 (pi),pbx] 1 [.r 0 .Ttm,NW] [(51,.jn [.r 10 .B] false),(207,.jn [.r 23 .B] false)],
  P1 n E Tryz.f174 174 2 [.r 0 (.ptr 0 0),.r 1 .S,pbx] 1 [.r 0 .Ttm,NW] []]
noncomputable def PE:Nat→List Ent
 |0=>[]
 |n+1=>PR n (PE n++PB n)
theorem aDn:∀n,EOs Tryz.prog TE (PE n)
 |0=>.n
 |n+1=>have h:=(aDn n).app (aDl n)
  .c (mkP h @Tryz.func299 (by kernel_rfl)) (.c (mkP h @Tryz.func259 (by kernel_rfl)) (.c (mkP h @Tryz.func107 (by kernel_rfl)) (.c (mkP h @Tryz.func258 (by kernel_rfl)) (.c (mkP h @Tryz.func173 (by kernel_rfl)) (.c (mkP h @Tryz.func106 (by kernel_rfl)) (.c (mkP h @Tryz.func50 (by kernel_rfl)) (.c (mkP h @Tryz.func174 (by kernel_rfl)) (.n))))))))
noncomputable def aj8(n:Nat):Ent:=P1 n (PE n++PB n) Tryz.f23 23 1 [.r 0 .S] 3 [.r 0 .Ttm,.r 1 (pi),.r 2 (pi)] []
theorem ax3(n:Nat):ah Tryz.prog TE (aj8 n):=mkP ((aDn n).app (aDl n)) @Tryz.func23 (by kernel_rfl)
noncomputable def X8(n:Nat)(s:Str):Option (Tm×Int×Int):=(aj8 n).F s
noncomputable def P8(n:Nat):Option Bool:=((X8 n ([99,97,114,100,40,65,32,43,45,62,32,123,49,125,41]:Str)).bind fun(x1:Tm×Int×Int)=>((X8 n ([110,32,61,32,48,32,111,114,32,54,32,47,32,110,32,61,32,50]:Str)).bind fun(x2:Tm×Int×Int)=>((mU n (S_api_World.mk (Env.mk ([(Carrier.mk ([65]:Str) ([]))]) ([(Decl.mk ([110]:Str) (Ty.mk 1 ([]:Str) ([])))])) ([2]) ([(Val.mk 1 3 ([]:Str) ([]))])) x1.1).bind fun(x3:Val×Int)=>((j4 n (S_api_World.mk (Env.mk ([(Carrier.mk ([65]:Str) ([]))]) ([(Decl.mk ([110]:Str) (Ty.mk 1 ([]:Str) ([])))])) ([2]) ([(Val.mk 1 3 ([]:Str) ([]))])) x2.1).bind fun(x4:Bool×Int)=>(((cond (x3.2==0) (cond (x3.1.kind==1) (cond (x3.1.n==4) (cond (x4.2==0) (some x4.1) (some false)) (some false)) (some false)) (some false)):Option Bool).bind fun(s1:Bool)=>some s1)))))
noncomputable def JK(n:Nat):Ent:=⟨8,0,[],1,[.r 0 .B],Bool,none,none,fun x=>P8 n,fun r=>r⟩
theorem ark(n:Nat):ah Tryz.prog TE (JK n):=mk n [(255,.jn [.r 0 .B] false)] (e:=JK (n)) (inn:=some) (.c (agB n) (.c (FM n) (.c (ax3 n) (.c (BD n) (.c (zx n) .n))))) @Tryz.func8
end
section
open Go Go.Proofs
set_option maxRecDepth 100000
set_option maxRecDepth 100000 in
theorem aFZ:X8 150 ([99,97,114,100,40,65,32,43,45,62,32,123,49,125,41]:Str)=some (.mk 47 [] 0 (.mk 0 [] []) [.mk 42 [] 0 (.mk 0 [] []) [.mk 20 [65] 0 (.mk 0 [] []) [],.mk 28 [] 0 (.mk 0 [] []) [.mk 19 [] 1 (.mk 0 [] []) []]]],0,0):=by kernel_rfl
theorem aGP:X8 150 ([110,32,61,32,48,32,111,114,32,54,32,47,32,110,32,61,32,50]:Str)=some (.mk 5 [] 0 (.mk 0 [] []) [.mk 10 [] 0 (.mk 0 [] []) [.mk 20 [110] 0 (.mk 0 [] []) [],.mk 19 [] 0 (.mk 0 [] []) []],.mk 10 [] 0 (.mk 0 [] []) [.mk 25 [] 0 (.mk 0 [] []) [.mk 19 [] 6 (.mk 0 [] []) [],.mk 20 [110] 0 (.mk 0 [] []) []],.mk 19 [] 2 (.mk 0 [] []) []]],0,0):=by kernel_rfl
theorem axw:P8 150=some true:=by
 unfold P8;rw[aFZ,aGP]
 kernel_rfl
theorem aHc(m:Nat):(JK m).F ()=P8 m:=rfl
theorem EC(n:Nat):ah Tryz.prog TE (ajv n):=by
 have h:=ark 150;have h1:mQ Tryz.prog 8=true:=h.1;have h3:=h.2.2 () true ((aHc 150).trans axw);refine⟨h1,by kernel_rfl,fun x y hy=>?_⟩;cases hy;dsimp only[JK]at h3;dsimp only[ajv];exact h3
end
section
open Go Go.Proofs
theorem okF_19:mQ Tryz.prog 19=true:=by kernel_rfl
theorem okF_46:mQ Tryz.prog 46=true:=by kernel_rfl
theorem idle46(xs:Array Value)(w:World)(hx:xs.size=2):CallsD Tryz.prog 46 xs .returning w fun e u' w'=>e=.returned (.tuple #[])∧u'=.returning∧w'=w:=by
 obtain⟨l⟩:=xs
 match l,hx with
 |[x0,x1],_=>
 refine callsD_of_wpS Tryz.func46 rfl fun c₀ cs hu=>?_;apply wpS_seq;apply wpS_region;simp[wpOpsS,go_sem,recoverD,hu,Tryz.ntmps46,Exit.thenS];refine wpS_of_wp ?_;refine wp_block ?_;refine wp_seq ?_;apply wp_region;simp[wpOps,go_sem,Exit.then]
 first
  |refine wp_cond_true (by simp[Act.eval,go_sem]) ?_
  |refine .inl (wp_cond_true (by simp[Act.eval,go_sem]) ?_)
 apply wp_region;cases c₀
 simp_all [wpOps,go_sem,Exit.inBlock,bodyPostS,results,Tryz.results46]
def tm00:Tm:=Tm.mk 0 ([]:Str) 0 (Ty.mk 0 ([]:Str) []) []
noncomputable def b19:Code:=bdy Tryz.f19
noncomputable def c46:Code:=cA (cR (cD (cR (cB (cR (bdy Tryz.f46))))))
noncomputable def o19:List Oper:=opsOf (cL (cR (cR (cR (cR b19)))))
noncomputable def mkDT(t:List TV)(h:List TObj):DS:=⟨t,h,[],[],[],[],[],[]⟩
section
variable (n:Nat)(p0:Env)(p1:Val)(p2:Ty)(v:Int)
def t19:List TV:=[.lf (.t .env) p0,.lf (.t .val) p1,.lf (.t .ty) p2]++List.replicate 39 (.tup [])
def u19(l:List TV):List TV:=[.lf (.t .env) p0,.lf (.t .val) p1,.lf (.t .ty) p2,.ptr 0 0,.ptr 1 0,.ptr 2 0,.ptr 3 0,.ptr 4 0,.tup []]++l
def t19A:List TV:=u19 p0 p1 p2 (List.replicate 33 (.tup []))
def t19B(b:Bool):List TV:=u19 p0 p1 p2 (List.replicate 8 .unk++[.lf .b b]++List.replicate 24 (.tup []))
def t19C(b:Bool)(x:TV):List TV:=u19 p0 p1 p2 (List.replicate 8 .unk++[.lf .b false,.tup []]++List.replicate 11 .unk++[.lf .b b,.tup [],x]++List.replicate 9 (.tup []))
def t19P:List TV:=u19 p0 p1 p2 (List.replicate 8 .unk++[.lf .b false,.tup []]++List.replicate 11 .unk++[.lf .b false,.tup [],.unk,.lf (.t .env) p0,.lf (.t .val) p1,.lf (.t .ty) p2]++List.replicate 6 (.tup []))
def h19:List TObj:=[.box [.lf (.t .env) p0],.box [.lf (.t .val) p1],.box [.lf (.t .ty) p2],.box [.lf (.n .i64) 0,.lf .s [],.lf (.n .i64) 0,.lf (.n .i64) 0,.lf .s [],.nils,.nils],.box [.lf (.n .i64) v]]
def cE:Option Bool:=(rY n p0).bind fun x1=>(cond (!x1) (some true) ((Px n p0 p2).bind fun x2=>some (!x2)))
def cT:Option Bool:=cond (p1.kind==2) (some true) ((eval_wide n p0).bind fun x3=>((kN n p0 x3 p1 p2).bind fun x4=>some (!x4)))
theorem qA19:exe ⟨τ,θ,n,Unit,[],0,TE,fun _ _=>none⟩ [] (fun _=>none) (cL b19) (List TV×List TObj) 2 (mkDT (t19 p0 p1 p2) []) (fun _=>none) (fun e s=>match e with| .normal=>some (s.t,s.h)|_=>none)=some (t19A p0 p1 p2,h19 p0 p1 p2 0):=by kernel_rfl
theorem qB19:exe ⟨τ,θ,n,Unit,[(6,.jn [.r 17 .B] false)],0,TE,fun _ _=>none⟩ [Pd n,abY n] (fun _=>none) (cL (cR b19)) (List TV×List TObj) 6 (mkDT (t19A p0 p1 p2) (h19 p0 p1 p2 0)) (fun _=>none) (fun e s=>match e with| .normal=>some (s.t,s.h)|_=>none)=
  (cE n p0 p2).bind fun b=>cond b none (some (t19B p0 p1 p2 b,h19 p0 p1 p2 0)):=by kernel_rfl
theorem qC19:exe ⟨τ,θ,n,Unit,[(14,.jn [.r 30 .B] false)],0,TE,fun _ _=>none⟩ [e_eval_wide n,Zu n] (fun _=>none) (cL (cR (cR b19))) (List TV×List TObj) 14 (mkDT (t19B p0 p1 p2 false) (h19 p0 p1 p2 0)) (fun _=>none) (fun e s=>match e with| .normal=>some (s.t,s.h)|_=>none)=
  (cT n p0 p1 p2).bind fun b=>cond b none (some (t19C p0 p1 p2 b (.tup []),h19 p0 p1 p2 0)):=by kernel_rfl
theorem qE19:exe ⟨τ,θ,n,Tm×Int,[(6,.jn [.r 17 .B] false),(14,.jn [.r 30 .B] false)],0,TE,fun _ _=>none⟩ [Pd n,abY n,e_eval_wide n,Zu n] (yK τ 0 Tryz.f19.results.toList (e_eval_Literal n).rs some) b19 (Tm×Int) 1 (mkDT (t19 p0 p1 p2) []) some
  (fun e s=>match e with| .normal=>yK τ 0 Tryz.f19.results.toList (e_eval_Literal n).rs some s|_=>none)=
  (cE n p0 p2).bind fun b=>cond b (some (tm00,1)) ((cT n p0 p1 p2).bind fun b=>cond b (some (tm00,7)) none):=by kernel_rfl
theorem qI19:exe ⟨τ,θ,n,Tm×Int,[],0,TE,fun _ _=>none⟩ [e_eval_literal n,acF n] (yK τ 0 Tryz.f19.results.toList (e_eval_Literal n).rs some) (cR (cR (cR (cR b19)))) (Tm×Int) 31 (mkDT (t19C p0 p1 p2 false .unk) (h19 p0 p1 p2 0)) some
  (fun e s=>match e with| .normal=>yK τ 0 Tryz.f19.results.toList (e_eval_Literal n).rs some s|_=>none)=
  (eval_literal n p0 p1 p2).bind (PZ.el (fun x5=>(J7 n x5).bind fun x6=>(cond (!x6) (some (tm00,5)) (some (x5,0)))) fun _ _=>none):=by kernel_rfl
theorem qP19:Jk (mkDT (t19C p0 p1 p2 false .unk) (h19 p0 p1 p2 0)).h 0 (fun n'=>XQ τ θ [e_eval_literal n] (fun _ _ _ _ v s=>some (v,s)) o19 o19 n' [] {mkDT (t19C p0 p1 p2 false .unk) (h19 p0 p1 p2 0)with h:=(mkDT (t19C p0 p1 p2 false .unk) (h19 p0 p1 p2 0)).h++y8 (zT o19)} fun _ _=>none)=
  (eval_literal n p0 p1 p2).bind (PZ.el (fun _=>none) fun v _=>some (v,⟨t19P p0 p1 p2,h19 p0 p1 p2 0++y8 6,[35,34,33],[],[],[],[],[]⟩)):=by kernel_rfl
theorem qR19:yK τ 0 Tryz.f19.results.toList (e_eval_Literal n).rs some (mkDT (t19P p0 p1 p2) (h19 p0 p1 p2 v))=some (tm00,v):=by kernel_rfl
noncomputable def s46:DS:=⟨[.ptr 3 0,.ptr 4 0,.tup [],.tup [],.tup [],.unk,.tup [],.unk,.unk,.unk,.lf (.n .i64) v,.tup [],.tup []],h19 p0 p1 p2 0,[],[],[],[],[],[]⟩
theorem q46:exe ⟨τ,θ,0,Unit,[],5,TE,fun _ _=>none⟩ [] (fun _=>none) c46 (List TObj) 1 (s46 p0 p1 p2 v) (fun _=>none) (fun e s=>match e with| .normal=>some s.h|_=>none)=some (h19 p0 p1 p2 v):=by kernel_rfl
set_option maxHeartbeats 2000000 in
theorem rec46(hv:0≤v∧v≤1000):an1 Tryz.prog 46 [.ptr 3 0,.ptr 4 0] (aB (h19 p0 p1 p2 0)) (Cz TE v) (aB (h19 p0 p1 p2 v)):=by
 have h2:AW Tryz.prog 5 c46 (fun e t h=>e=.normal∧∃s:DS,s.h=h19 p0 p1 p2 v∧Le 5 t h (aU s.h s.t) (aB s.h)) (aU (h19 p0 p1 p2 0) (s46 p0 p1 p2 v).t) (aB (h19 p0 p1 p2 0)):=
  aDB (n:=0) (h0:=h19 p0 p1 p2 0) (f:=fun(s:DS)=>s.h) yJ (fun e he=>by cases he) (by kernel_rfl) (by kernel_rfl) (s:=s46 p0 p1 p2 v) (wW (qAd _)) (q46 p0 p1 p2 v)
 obtain⟨HP,hHP⟩:∃H,H=aB (h19 p0 p1 p2 0):=⟨_,rfl⟩;obtain⟨HC,hHC⟩:∃H,H=aB (h19 p0 p1 p2 v):=⟨_,rfl⟩;rw[←hHP,←hHC];intro κ ak w vs hen hvl hr;have hsim:=UN (fn:=Tryz.f46) hen hvl hr
 match vs,hvl with
 |[x0,x1],_=>
 refine callsD_of_wpS Tryz.func46 rfl fun c₀ fr hu=>?_;apply wpS_seq;apply wpS_region;simp[wpOpsS,go_sem,recoverD,hu,Tryz.ntmps46,Exit.thenS];refine wpS_of_wp ?_;refine wp_block ?_;refine wp_seq ?_;apply wp_region;simp[wpOps,go_sem,Exit.then,Cz]
 first
  |refine wp_cond_false (by simp[Act.eval,go_sem]) ?_
  |refine .inl (wp_cond_false (by simp[Act.eval,go_sem]) ?_)
 refine wp_seq ?_;apply wp_region;simp[wpOps,go_sem,Exit.then,aHa];have h1:=(((((hsim.aA (some 5) (v:=.unk) (u:=Cz TE v) (.unk _)).aA (some 7) (v:=.unk) (u:=.bool false) (.unk _)).aA (some 8) (v:=.unk) (u:=.tuple #[.int .i64 v,.bool true]) (.unk _)).aA (some 9) (v:=.unk) (u:=.bool true) (.unk _)).aA (some 10) (v:=.int .i64 v) (u:=.int .i64 v) (.int (by simp[sj,IntKind.min,IntKind.max,IntKind.signed,IntKind.bits];omega)));rw[hHP]at h1;have h2:=h2 _ _ _ _ (qBm (by rw[←hHP];exact hen.klen.trans (by rw[hHP];rfl))) h1;rw[←hHP]at h2
 first
  |refine wp_cond_true (by simp[Act.eval,go_sem]) ?_
  |refine .inl (wp_cond_true (by simp[Act.eval,go_sem]) ?_)
  |refine .inl (.inl (wp_cond_true (by simp[Act.eval,go_sem]) ?_))
  |refine .inl (.inl (.inl (wp_cond_true (by simp[Act.eval,go_sem]) ?_)))
 have hact:(((((({tmps:=#[x0,x1]++Array.replicate (Tryz.f46.ntmps - #[x0,x1].size) undef,defers:=[]}:Act).put (some 5) (Cz TE v)).put (some 7) (.bool false)).put (some 8) (.tuple #[.int .i64 v,.bool true])).put (some 9) (.bool true)).put (some 10) (.int .i64 v))=
   {tmps:=#[x0,x1]++(((((Array.replicate 11 undef).setIfInBounds 3 (Value.iface TE (Value.int IntKind.i64 v))).setIfInBounds 5 (Value.bool false)).setIfInBounds 6 (Value.tuple #[Value.int IntKind.i64 v,Value.bool true])).setIfInBounds 7 (Value.bool true)).setIfInBounds 8 (Value.int IntKind.i64 v),defers:=[]}:=by
  simp[Act.put,Tryz.ntmps46,Cz]
 rw[hact]at h2;refine wp_mono (c:=c46) h2 ?_;rintro e a' w' ⟨s',κ',⟨rfl,s1,hs1,hle⟩,hs'⟩;have hl9:HP.length=5:=by rw[hHP];rfl
 have hq:BQ Tryz.prog Tryz.f46.results.toList HP.length [] (h19 p0 p1 p2 v) s'.tmps s'.heap:=by
  rw[hl9];exact⟨_,_,[],hle,rfl,by rw[hs1];exact Le.refl _ _ _⟩
 obtain⟨v1,hv1,v2,κ2,e1,hleave,_⟩:=YM (fn:=Tryz.f46) hen (by rw[hl9];exact qAd 5) [] hq hs';rw[←hHC]at hleave;have hd:a'.defers=[]:=hs'.defers;exact⟨hd,.panicking [{v:=Value.iface TE (Value.int IntKind.i64 v),recovered:=true}],rfl,.tuple #[],by simp[results,Tryz.results46,go_sem],rfl,by simp[settle],κ2,hleave⟩
end
theorem t_eval_Literal(n:Nat):ah Tryz.prog TE (e_eval_Literal n):=by
 refine⟨okF_19,by kernel_rfl,fun x y hF t h hb=>?_⟩;obtain⟨p0,p1,p2⟩:=x;obtain⟨rfl,rfl⟩:t=[.lf (.t .env) p0,.lf (.t .val) p1,.lf (.t .ty) p2]∧h=[]:=⟨(congrArg Prod.fst hb).symm,(congrArg Prod.snd hb).symm⟩;clear hb;show ∀r h',dW bS (e_eval_Literal n).rs (fF _ ((e_eval_Literal n).out y)) (dM 2) []=(r,h')→eH Tryz.prog 19 (aU [] [.lf (.t .env) p0,.lf (.t .val) p1,.lf (.t .ty) p2]) (aB []) (av h' (res1 r)) (aB h');intro r h' hb2;have hte:uf Tryz.prog TE=true:=by kernel_rfl
 have hmix:Tryz.prog.follows .mixedOrders=true:=by kernel_rfl
 have hF:eval_Literal n p0 p1 p2=some y:=hF;have ret:=fun(s:DS) (hst:St 0 [] s) (hs:yK τ 0 Tryz.f19.results.toList (e_eval_Literal n).rs some s=some y)=>
  ad9 (h:=[]) (P:=Tryz.prog) (e:=e_eval_Literal n) (rvs:=Tryz.f19.results.toList) (out:=(e_eval_Literal n).out) (inn:=some) sm (by kernel_rfl) (h0:=[]) rfl rfl rfl hst (by rw[←yJ];exact hs) hb2
 have hst0:∀t h,St 0 [] (mkDT t h):=fun t h=>⟨(wW (m:=0) (h:=h) (t:=t) (qAZ _)).inv,qAZ _,fun l hl=>absurd hl (Nat.not_lt_zero l)⟩;have hE:∀e∈[Pd n,abY n,e_eval_wide n,Zu n],ah Tryz.prog TE e:=by
  simp only[qAh,qCm,or_false,forall_eq_or_imp,forall_eq];exact⟨Fv n,arB n,t_eval_wide n,ajL n⟩
 have early:((cE n p0 p2).bind fun b=>cond b (some (tm00,(1:Int))) ((cT n p0 p1 p2).bind fun b=>cond b (some (tm00,(7:Int))) none))=some y→eH Tryz.prog 19 (aU [] [.lf (.t .env) p0,.lf (.t .val) p1,.lf (.t .ty) p2]) (aB []) (av h' (res1 r)) (aB h'):=fun hq=>
  apS Tryz.func19 rfl (qAf rfl) (qAZ _) (aFf (s:=mkDT (t19 p0 p1 p2) []) yJ hE hte hmix (hst0 _ _) ((qE19 n p0 p1 p2).trans hq) ret)
 have hF:((cE n p0 p2).bind fun b=>cond b (some (tm00,1)) ((cT n p0 p1 p2).bind fun b=>cond b (some (tm00,7)) ((eval_literal n p0 p1 p2).bind (PZ.el (fun x5=>(J7 n x5).bind fun x6=>(cond (!x6) (some (tm00,5)) (some (x5,0)))) fun e _=>bif decide ((0:Int)≤e)&&decide (e≤1000)then some (tm00,e)else none))))=some y:=hF;obtain⟨b1,e1,hF⟩:=ob hF;cases b1 with
 |true=>exact early (by rw[e1];exact hF)
 |false=>
  have hF:((cT n p0 p1 p2).bind fun b=>cond b (some (tm00,7)) ((eval_literal n p0 p1 p2).bind (PZ.el (fun x5=>(J7 n x5).bind fun x6=>(cond (!x6) (some (tm00,5)) (some (x5,0)))) fun e _=>bif decide ((0:Int)≤e)&&decide (e≤1000)then some (tm00,e)else none)))=some y:=hF;obtain⟨b2,e2,hF⟩:=ob hF;cases b2 with
  |true=>exact early (by rw[e1,qAb,cond_false,e2];exact hF)
  |false=>
   have hF:((eval_literal n p0 p1 p2).bind (PZ.el (fun x5=>(J7 n x5).bind fun x6=>(cond (!x6) (some (tm00,5)) (some (x5,0)))) fun e _=>bif decide ((0:Int)≤e)&&decide (e≤1000)then some (tm00,e)else none))=some y:=hF;have hE1:∀e∈[Pd n,abY n],ah Tryz.prog TE e:=fun e he=>hE e (by simp only[qAh,qCm,or_false]at he⊢;rcases he with he|he<;>simp[he]);have hE2:∀e∈[e_eval_wide n,Zu n],ah Tryz.prog TE e:=fun e he=>hE e (by simp only[qAh,qCm,or_false]at he⊢;rcases he with he|he<;>simp[he]);have hE3:∀e∈[e_eval_literal n,acF n],ah Tryz.prog TE e:=by
    simp only[qAh,qCm,or_false,forall_eq_or_imp,forall_eq];exact⟨t_eval_literal n,Sr n⟩
   have hr0:AW Tryz.prog 0 (cL b19) (nrm 0 (aU (h19 p0 p1 p2 0) (t19A p0 p1 p2)) (aB (h19 p0 p1 p2 0))) (aU [] (t19 p0 p1 p2)) (aB []):=
    WM yJ (fun e he=>by cases he) hte hmix (wW (h:=[]) (qAd 0)) (qA19 n p0 p1 p2)
   have hr1:AW Tryz.prog 0 (cL (cR b19)) (nrm 0 (aU (h19 p0 p1 p2 0) (t19B p0 p1 p2 false)) (aB (h19 p0 p1 p2 0))) (aU (h19 p0 p1 p2 0) (t19A p0 p1 p2)) (aB (h19 p0 p1 p2 0)):=
    WM yJ hE1 hte hmix (wW (h:=h19 p0 p1 p2 0) (qAZ _)) ((qB19 n p0 p1 p2).trans (by rw[e1];rfl))
   have hr2:AW Tryz.prog 0 (cL (cR (cR b19))) (nrm 0 (aU (h19 p0 p1 p2 0) (t19C p0 p1 p2 false (.tup []))) (aB (h19 p0 p1 p2 0))) (aU (h19 p0 p1 p2 0) (t19B p0 p1 p2 false)) (aB (h19 p0 p1 p2 0)):=
    WM yJ hE2 hte hmix (wW (h:=h19 p0 p1 p2 0) (qAZ _)) ((qC19 n p0 p1 p2).trans (by rw[e2];rfl))
   cases he:eval_literal n p0 p1 p2 with
   |none=>rw[he]at hF;cases hF
   |some o=>
    rw[he]at hF;cases o with
    |ok x=>
     refine aoH (f:=19) (d:=46) (n:=32) (b:=b19) (r3:=cR (cR (cR (cR b19)))) (TB:=aU (h19 p0 p1 p2 0) (t19C p0 p1 p2 false (.tup []))) (HB:=aB (h19 p0 p1 p2 0)) Tryz.func19 rfl (qAf rfl) rfl rfl rfl rfl rfl rfl (qAf rfl) okF_46 (fun xs w hx=>idle46 xs w (by simpa using hx)) (.cons hr0 (.cons hr1 (.cons hr2 .nil))) (qAZ _) ?_;exact aFf (s:=mkDT (t19C p0 p1 p2 false .unk) (h19 p0 p1 p2 0)) yJ hE3 hte hmix (hst0 _ _) ((qI19 n p0 p1 p2).trans (by rw[he];exact hF)) ret
    |er v z=>
     have hF:(bif decide ((0:Int)≤v)&&decide (v≤1000)then some (tm00,v)else none)=some y:=hF;obtain⟨hv,hF⟩:=(bD hF).resolve_right fun h=>by cases h.2
     simp only[qAa,decide_eq_true_eq]at hv;have hy:y=(tm00,v):=(Option.some.inj hF).symm;refine aoM (f:=19) (d:=46) (n:=32) (b:=b19) (r3:=cR (cR (cR (cR b19)))) (TB:=aU (h19 p0 p1 p2 0) (t19C p0 p1 p2 false (.tup []))) (HB:=aB (h19 p0 p1 p2 0)) (TP:=aU (h19 p0 p1 p2 0) (t19P p0 p1 p2)) (HP:=aB (h19 p0 p1 p2 0)) Tryz.func19 rfl (qAf rfl) rfl rfl rfl rfl rfl rfl (qAf rfl) okF_46 (.cons hr0 (.cons hr1 (.cons hr2 .nil))) (qAZ _) ?_ (by exact rec46 p0 p1 p2 v hv) ?_
     ·refine AW.seq (x:=.region 6 o19.toArray false) (y:=cR (cR (cR (cR (cR b19))))) ((axN (id:=6) yJ (fun e h=>hE3 e (by simp only[qAK]at h;simp[h])) (hst0 (t19C p0 p1 p2 false .unk) (h19 p0 p1 p2 0)).inv ((qP19 n p0 p1 p2).trans (by rw[he];rfl))).mono fun e t h hq=>?_);obtain⟨rfl,rfl,rfl⟩:=hq;exact⟨rfl,by
       have:=auK (m:=(aB (h19 p0 p1 p2 0)).length) (aU (h19 p0 p1 p2 0) (t19P p0 p1 p2)) (aB (h19 p0 p1 p2 0)) 6;simp only[ali,agL];exact this⟩
     ·exact ret (mkDT (t19P p0 p1 p2) (h19 p0 p1 p2 v)) (hst0 _ _) (hy▸qR19 n p0 p1 p2 v)
end
section
open Go Go.Proofs
set_option maxRecDepth 100000
end
section
open Go Go.Proofs
set_option maxRecDepth 100000
theorem t_L3_EvalLiteralBack(n:Nat):ah Tryz.prog TE (e_L3_EvalLiteralBack n):=MKS n [(6,.jn [.r 19 .B] false),(63,.jn [.r 6 .B] false),(122,.jn [.r 6 .B] false)] (.c (Et n) (.c (Uk n) (.c (EC n) (.c (t_eval_Literal n) (.c (BD n) (.c (za n) .n)))))) @Tryz.func5
end
end Abs
end Go.Proofs.YthgdaonechbgmaaGreat

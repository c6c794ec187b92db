/-
  The contract of eval.sorted as an entry. Conditions: none.
-/
import Derived.KernelRfl
import Derived.Shelf.SlGeneric
import Derived.Shelf.Spec.SlicesGrow
import Derived.Ground.Names8Prog
import Derived.Test.YtneeginmfjageaaGreatProg
import Derived.Test.YtneeginmfjageaaGreatCSrtox2305d0
set_option linter.all false
namespace Go.Proofs.YtneeginmfjageaaGreat
namespace Abs
section
open Go Go.Proofs
theorem aD7:kE Tryz.prog 61=true:=by kernel_rfl
theorem ajM n p0 r (h:jG n p0=some r):cK Tryz.prog 61 [.slice (List.map aQ p0) .shared] [] (.slice (List.map aQ r) .shared) []:=by
 unfold jG app at h;split at h;·rename_i b;simp only[qAa,qAs,Option.some.injEq]at h;subst h;exact acH [] p0 .shared (by simpa using b.1)
 cases h
theorem zq n:ah Tryz.prog TE (an3 n):=NK aD7 (by kernel_rfl) rfl λx y h b a=>by cases a;exact ajM n x y h
end
section
open Go Go.Proofs
set_option maxRecDepth 100000
theorem MG n:ah Tryz.prog TE (Ms n):=MKS n [(6,.jn [.r 26 .B] false),(58,.lp [.r 31 .I] 0 [])] (.c (Dt n) (.c (RY n) (.c (agN n) .n))) @Tryz.func31
theorem asj n:ah Tryz.prog TE (ac9 n):=MKS n [(12,.jn [.r 4 .B] false),(51,.jn [.r 15 .B] false),(831,.jn [.r 31 .B] false),(1647,.jn [.r 15 .B] false)] .n @Tryz.func205
theorem apr n:ah Tryz.prog TE (ZB n):=MKS n [] (.c (Ii n) (.c (qZ n) .n)) @Tryz.func206
theorem amD n:ah Tryz.prog TE (Xy n):=MKS n [(3,.jn [.r 2 .B] false)] .n @Tryz.func207
theorem afP n:ah Tryz.prog TE (RF n):=MKS n [(3,.jn [.r 2 .B] false)] .n @Tryz.func208
theorem anc n:ah Tryz.prog TE (Xz n):=MKS n [(7,.jn [.r 4 .B] true),(15,.jn [.r 4 .B] false),(28,.jn [.r 14 .B] false),(63,.jn [.r 2 .B] false),(227,.jn [.r 14 .B] false),(250,.jn [.r 2 .B] false)] (.c (asj n) (.c (apr n) (.c (amD n) (.c (qZ n) (.c (tJ n) (.c (afP n) .n)))))) @Tryz.func138
theorem fG:∀n,ah Tryz.prog TE (uz n)/\ah Tryz.prog TE (qV n)/\ah Tryz.prog TE (Ae n)/\ah Tryz.prog TE (xI n)|0=>⟨iZ (fn:=Tryz.f209) (by kernel_rfl) λ_=>rfl,iZ (fn:=Tryz.f139) (by kernel_rfl) λ_=>rfl,iZ (fn:=Tryz.f67) (by kernel_rfl) λ_=>rfl,iZ (fn:=Tryz.f140) (by kernel_rfl) λ_=>rfl⟩|n+1=>⟨MKS n [(26,.lp [.r 8 .I,.o 1 (.bx [(0,.lf (.n .i64))])] 0 [.o 1 (.bx [(0,.lf (.n .i64))])])] (.c (fG n).2.2.2 .n) @Tryz.func209,
  MKS n [] (.c (fG n).1 .n) @Tryz.func139,
  MKS n [(6,.jn [.r 15 .B,.o 0 (.bx [(0,.lf (.n .i64))])] false)] (.c (He n) (.c (anc n) (.c (fG n).2.1 .n))) @Tryz.func67,
  MKS n [] (.c (fG n).2.2.1 .n) @Tryz.func140⟩
theorem Yk n:ah Tryz.prog TE (Ae n):=(fG n).2.2.1
theorem Qb n:ah Tryz.prog TE (aa0 n):=MKS n [] (.c (Yk n) .n) @Tryz.func32
theorem jF n:ah Tryz.prog TE (U8 n):=MKS n [] .n @Tryz.func149
theorem ai8 n:ah Tryz.prog TE (U3 n):=MKS n [(58,.lp [.r 15 .I,.o 1 (.mp .ty)] 0 [.o 1 (.mp .ty)]),(122,.lp [.r 42 .I,.o 1 (.mp .ty),.o 0 .dead] 4 [.o 1 (.mp .ty),.o 0 .dead]),(59806,.lp [.r 30 .I,.o 1 (.mp .ty),.o 2 .dead] 2 [.o 1 (.mp .ty),.o 2 .dead])] (.c (jF n) .n) @Tryz.func141
theorem CX n:ah Tryz.prog TE (UZ n):=MKS n [] .n @Tryz.func211
theorem amX n:ah Tryz.prog TE (X6 n):=MKS n [(7,.fz [1,0])] .n @Tryz.func210
theorem Fu n:ah Tryz.prog TE (PO n):=MKS n [] .n @Tryz.func212
theorem aqK n:ah Tryz.prog TE (aaA n):=MKS n [(7,.fz [0])] .n @Tryz.func215
theorem Yr n:ah Tryz.prog TE (IG n):=MKS n [(7,.fz [0])] .n @Tryz.func221
theorem aj9 n:ah Tryz.prog TE (Ve n):=MKS n [(7,.fz [0])] .n @Tryz.func223
theorem acO n:ah Tryz.prog TE (MO n):=MKS n [(7,.fz [0])] .n @Tryz.func225
theorem anN n:ah Tryz.prog TE (Ya n):=MKS n [(7,.fz [0])] .n @Tryz.func226
theorem agc n:ah Tryz.prog TE (Q9 n):=MKS n [(7,.fz [0])] .n @Tryz.func226
theorem amP n:ah Tryz.prog TE (Xr n):=MKS n [(7,.fz [0])] .n @Tryz.func230
theorem afT n:ah Tryz.prog TE (RX n):=MKS n [(7,.fz [0])] .n @Tryz.func230
theorem akv n:ah Tryz.prog TE (Us n):=MKS n [(7,.fz [0])] .n @Tryz.func215
theorem Ta n:ah Tryz.prog TE (FH n):=MKS n [(7,.fz [0])] .n @Tryz.func221
theorem Ua n:ah Tryz.prog TE (FX n):=MKS n [(7,.fz [0])] .n @Tryz.func221
theorem afD n:ah Tryz.prog TE (O8 n):=MKS n [(7,.fz [0])] .n @Tryz.func223
theorem aeP n:ah Tryz.prog TE (Ob n):=MKS n [(7,.fz [0])] .n @Tryz.func223
theorem Ur n:ah Tryz.prog TE (Ga n):=MKS n [(7,.fz [0])] .n @Tryz.func221
theorem Um n:ah Tryz.prog TE (Fx n):=MKS n [(7,.fz [0])] .n @Tryz.func221
theorem Uk n:ah Tryz.prog TE (F5 n):=MKS n [(7,.fz [0])] .n @Tryz.func221
theorem Ub n:ah Tryz.prog TE (FZ n):=MKS n [(7,.fz [0])] .n @Tryz.func221
theorem Ut n:ah Tryz.prog TE (F6 n):=MKS n [(7,.fz [0])] .n @Tryz.func221
theorem an2 n:ah Tryz.prog TE (X4 n):=MKS n [] (.c (CX n) (.c (amX n) (.c (Fu n) (.c (aqK n) (.c (Yr n) (.c (aj9 n) (.c (acO n) (.c (anN n) (.c (agc n) (.c (amP n) (.c (jF n) (.c (afT n) (.c (akv n) (.c (Ta n) (.c (Ua n) (.c (afD n) (.c (aeP n) (.c (Ur n) (.c (Um n) (.c (Uk n) (.c (Ub n) (.c (Ut n) .n)))))))))))))))))))))) @Tryz.func142
theorem YU n:ah Tryz.prog TE (IE n):=mk n [(58,.lp [.r 15 .I,.o 2 (.mp .b),.o 0 .dead] 0 [.o 2 (.mp .b),.o 0 .dead])] (e:=IE (n)) (inn:=λy=>bif List.isEmpty y.1 then some (y.2.1,y.2.2)else none) (.c (ai8 n) (.c (an2 n) .n)) @Tryz.func68 (by kernel_rfl) (by intro z y h;first|(cases h;rfl)|(obtain⟨a,b⟩:=(aZ h).resolve_right λh=>(by cases h.2);cases b;exact Prod.ext (qCr.1 a).symm rfl)|(have⟨a,b⟩:=(aZ h).resolve_right λh=>(by cases h.2);cases b;have⟨f,d⟩:=z;cases d;rfl;cases a)|(simp only[c]at h;split at h<;>cases h;simp_all)) λ_=>by kernel_rfl
theorem afI n:ah Tryz.prog TE (Rn n):=MKS n [(3,.jn [.r 2 .B] false)] .n @Tryz.func144
theorem eP n:ah Tryz.prog TE (LM n):=MKS n [] .n @Tryz.func145
theorem Ti n:ah Tryz.prog TE (FW n):=MKS n [(12,.lp [.r 0 .Fd] 0 [])] .n @Tryz.func146
theorem P8 n:ah Tryz.prog TE (Bp n):=MKS n [(3,.jn [.r 3 .B] false)] .n @Tryz.func244
theorem JG n:ah Tryz.prog TE (xD n):=MKS n [(26,.lp [.r 8 .I] 0 [])] (.c (P8 n) .n) @Tryz.func192
theorem Gg n:ah Tryz.prog TE (uh n):=MKS n [] (.c (JG n) .n) @Tryz.func114
theorem SA n:ah Tryz.prog TE (El n):=MKS n [] (.c (DC n) (.c (Gg n) .n)) @Tryz.func147
theorem afi n:ah Tryz.prog TE (PI n):=MKS n [] (.c (tJ n) .n) @Tryz.func148
theorem Y5 n:ah Tryz.prog TE (IB n):=MKS n [] .n @Tryz.func300
theorem acz n:ah Tryz.prog TE (Mx n):=MKS n [] .n @Tryz.func294
theorem Nw n:ah Tryz.prog TE (Ao n):=MKS n [(26,.lp [.r 8 .I] 0 [])] (.c (acz n) .n) @Tryz.func320
theorem IY n:ah Tryz.prog TE (xB n):=MKS n [] (.c (Nw n) .n) @Tryz.func270
theorem ag8 n:ah Tryz.prog TE (RI n):=MKS n [] (.c (IY n) .n) @Tryz.func293
theorem Rl n:ah Tryz.prog TE (RA n):=MKS n [] (.c (CX n) .n) @Tryz.func227
theorem ac1 n:ah Tryz.prog TE (MU n):=MKS n [] (.c (Rl n) .n) @Tryz.func301
theorem ni:∀n,ah Tryz.prog TE (uq n)/\ah Tryz.prog TE (JJ n)|0=>⟨iZ (fn:=Tryz.f297) (by kernel_rfl) λ_=>rfl,iZ (fn:=Tryz.f220) (by kernel_rfl) λ_=>rfl⟩|n+1=>⟨MKS n [(58,.lp [.r 17 .I] 0 [])] (.c (ni n).2 .n) @Tryz.func297,
  MKS n [(3,.jn [.r 4 .B] false)] (.c (ni n).1 .n) @Tryz.func220⟩
theorem oN n:ah Tryz.prog TE (JJ n):=(ni n).2
theorem ae7 n:ah Tryz.prog TE (Qg n):=MKS n [] (.c (oN n) .n) @Tryz.func295
theorem Nh n:ah Tryz.prog TE (Ay n):=MKS n [(26,.lp [.r 8 .I] 0 [])] (.c (ae7 n) .n) @Tryz.func320
theorem Jl n:ah Tryz.prog TE (xG n):=MKS n [] (.c (Nh n) .n) @Tryz.func270
theorem xC n:ah Tryz.prog TE (U2 n):=MKS n [(3,.jn [.r 2 .B] false)] (.c (Jl n) .n) @Tryz.func214
theorem ahY n:ah Tryz.prog TE (QM n):=MKS n [] (.c (CX n) (.c (xC n) .n)) @Tryz.func213
theorem aif n:ah Tryz.prog TE (Rj n):=MKS n [(7,.jn [.r 3 .B,.o 0 (.bx [(0,.k (.n .i64 2)),(1,.k (.s ([]:Str))),(2,.k (.l .ty))])] false)] (.c (eP n) (.c (CX n) (.c (oN n) .n))) @Tryz.func229
theorem acI n:ah Tryz.prog TE (MH n):=MKS n [(3,.jn [.r 4 .B,.o 0 (.bx [(0,.k (.n .i64 2)),(1,.k (.s ([]:Str))),(2,.k (.l .ty))])] false)] (.c (Rl n) (.c (xC n) .n)) @Tryz.func302
theorem QC n:ah Tryz.prog TE (QH n):=MKS n [] .n @Tryz.func232
theorem aiA n:ah Tryz.prog TE (Q5 n):=MKS n [(3,.jn [.r 3 .B,.o 0 (.bx [(0,.k (.n .i64 4)),(1,.k (.s ([]:Str))),(2,.lf (.l .ty))])] false)] (.c (QC n) .n) @Tryz.func231
theorem ag1 n:ah Tryz.prog TE (QB n):=MKS n [] (.c (jF n) (.c (xC n) .n)) @Tryz.func233
theorem Ru n:ah Tryz.prog TE (Rp n):=MKS n [] .n @Tryz.func228
theorem acu n:ah Tryz.prog TE (MR n):=MKS n [(3,.jn [.r 4 .B,.o 0 (.bx [(0,.lf (.n .i64)),(1,.lf .s),(2,.lf (.l .ty))])] false)] (.c (Ru n) (.c (xC n) .n)) @Tryz.func302
theorem rz n:ah Tryz.prog TE (MQ n):=MKS n [] (.c (QC n) (.c (jF n) .n)) @Tryz.func217
theorem aes n:ah Tryz.prog TE (OM n):=MKS n [(30,.jn [.r 28 .B] false)] (.c (eP n) (.c (rz n) .n)) @Tryz.func296
theorem jI n:ah Tryz.prog TE (Vd n):=MKS n [(14,.jn [.r 17 .B] false)] (.c (eP n) .n) @Tryz.func219
theorem ahJ n:ah Tryz.prog TE (RQ n):=MKS n [] (.c (xC n) .n) @Tryz.func234
theorem Qi n:ah Tryz.prog TE (Db n):=MKS n [] (.c (jI n) (.c (ahJ n) .n)) @Tryz.func298
theorem ahv n:ah Tryz.prog TE (QW n):=MKS n [(7,.jn [.r 7 .B,.o 2 (.bx [(0,.k (.n .i64 5)),(1,.k (.s ([]:Str))),(2,.lf (.l .ty))])] false)] (.c (jI n) (.c (rz n) (.c (oN n) .n))) @Tryz.func235
theorem Qm n:ah Tryz.prog TE (Di n):=MKS n [] (.c (jI n) (.c (ahv n) .n)) @Tryz.func298
theorem aiQ n:ah Tryz.prog TE (RZ n):=MKS n [(15,.jn [.r 3 .B,.o 0 (.bx [(0,.lf (.n .i64)),(1,.lf .s),(2,.lf (.l .ty))])] false)] (.c (eP n) (.c (jI n) (.c (oN n) .n))) @Tryz.func218
theorem af9 n:ah Tryz.prog TE (Qx n):=MKS n [(7,.jn [.r 7 .B,.o 2 (.bx [(0,.lf (.n .i64)),(1,.lf .s),(2,.lf (.l .ty))])] false)] (.c (eP n) (.c (oN n) .n)) @Tryz.func222
theorem Ql n:ah Tryz.prog TE (Dm n):=MKS n [] (.c (jI n) (.c (af9 n) .n)) @Tryz.func298
theorem agS n:ah Tryz.prog TE (RB n):=MKS n [] (.c (rz n) (.c (jF n) .n)) @Tryz.func216
theorem aeZ n:ah Tryz.prog TE (Pg n):=MKS n [(30,.jn [.r 28 .B] false)] (.c (eP n) (.c (agS n) .n)) @Tryz.func296
theorem afv n:ah Tryz.prog TE (Ox n):=MKS n [] (.c (jF n) .n) @Tryz.func236
theorem aa2 n:ah Tryz.prog TE (K5 n):=MKS n [] (.c (eP n) (.c (afv n) .n)) @Tryz.func299
theorem aeV n:ah Tryz.prog TE (O6 n):=MKS n [] (.c (Fu n) .n) @Tryz.func237
theorem Zf n:ah Tryz.prog TE (LB n):=MKS n [] (.c (eP n) (.c (aeV n) .n)) @Tryz.func299
theorem ag5 n:ah Tryz.prog TE (Rk n):=MKS n [] (.c (Fu n) .n) @Tryz.func224
theorem Zd n:ah Tryz.prog TE (K7 n):=MKS n [] (.c (eP n) (.c (ag5 n) .n)) @Tryz.func299
theorem afp n:ah Tryz.prog TE (Pd n):=MKS n [] (.c (jF n) .n) @Tryz.func238
theorem Qt n:ah Tryz.prog TE (Dg n):=MKS n [] (.c (jI n) (.c (afp n) .n)) @Tryz.func298
theorem ae4 n:ah Tryz.prog TE (OB n):=MKS n [] (.c (jF n) .n) @Tryz.func239
theorem Qr n:ah Tryz.prog TE (Dp n):=MKS n [] (.c (jI n) (.c (ae4 n) .n)) @Tryz.func298
theorem aey n:ah Tryz.prog TE (OT n):=MKS n [] (.c (rz n) .n) @Tryz.func240
theorem Qk n:ah Tryz.prog TE (Dj n):=MKS n [] (.c (jI n) (.c (aey n) .n)) @Tryz.func298
theorem aeQ n:ah Tryz.prog TE (OG n):=MKS n [(7,.jn [.r 7 .B,.o 2 (.bx [(0,.k (.n .i64 5)),(1,.k (.s ([]:Str))),(2,.lf (.l .ty))])] false)] (.c (eP n) (.c (jF n) (.c (oN n) .n))) @Tryz.func241
theorem Qs n:ah Tryz.prog TE (Dc n):=MKS n [] (.c (jI n) (.c (aeQ n) .n)) @Tryz.func298
theorem afg n:ah Tryz.prog TE (Oc n):=MKS n [] (.c (oN n) .n) @Tryz.func242
theorem Qp n:ah Tryz.prog TE (Df n):=MKS n [] (.c (jI n) (.c (afg n) .n)) @Tryz.func298
theorem acK n:ah Tryz.prog TE (ME n):=MKS n [] (.c (Ru n) .n) @Tryz.func301
theorem afq n:ah Tryz.prog TE (O5 n):=MKS n [(7,.jn [.r 3 .B,.o 0 (.bx [(0,.k (.n .i64 5)),(1,.k (.s ([]:Str))),(2,.lf (.l .ty))])] false)] (.c (eP n) (.c (rz n) .n)) @Tryz.func243
theorem rO:∀n,ah Tryz.prog TE (Ac n)/\ah Tryz.prog TE (wB n)|0=>⟨iZ (fn:=Tryz.f69) (by kernel_rfl) λ_=>rfl,iZ (fn:=Tryz.f143) (by kernel_rfl) λ_=>rfl⟩|n+1=>⟨MKS n [(31,.jn [.r 18 (.ptr 8 0),.r 19 .B,.w (.box [.I,.S,.Lty])] false),(58,.lp [.r 2 .Fd,.w (.own .ty),.r 8 (.own 6),.r 23 .I,.o 0 (.bx [(59,.psl 7 1)]),.o 3 (.dead),.w (.arr .i)] 0 [.r 2 .Fd,.w (.own .ty),.r 8 (.own 6),.o 0 (.bx [(59,.psl 7 1)]),.o 3 (.dead),.w (.arr .i)]),(467,.jn [.r 2 .Fd,.w (.own .ty),.r 8 (.own 8),.o 0 (.bx [(59,.psl 9 1)]),.w (.arr .i),.o 6 .dead,.o 7 .dead] true),(981,.jn [.r 16 (.ptr 9 0),.r 17 .B,.w (.box [.I,.S,.Lty])] false),(29903,.jn [.r 48 .B] false),(478459,.fa [13])] (.c (rO n).2 (.c (afI n) (.c (eP n) (.c (Ti n) (.c (SA n) (.c (jF n) (.c (afi n) (.c (Y5 n) (.c (ag8 n) (.c (ac1 n) (.c (ahY n) (.c (aif n) (.c (acI n) (.c (aiA n) (.c (ag1 n) (.c (acu n) (.c (aes n) (.c (Qi n) (.c (Qm n) (.c (aiQ n) (.c (Ql n) (.c (aeZ n) (.c (aa2 n) (.c (Zf n) (.c (Zd n) (.c (Qt n) (.c (Qr n) (.c (Qk n) (.c (Qs n) (.c (Qp n) (.c (acK n) (.c (afq n) .n)))))))))))))))))))))))))))))))) @Tryz.func69,
  MKS n [(15,.jn [.o 0 (.bx [(59,.psl 8 1)]),.o 8 (.arr .i)] false),(122,.ca 8 0 59)] (.c (rO n).1 .n) @Tryz.func143⟩
theorem YG n:ah Tryz.prog TE (Ac n):=(rO n).1
theorem MX:∀n,ah Tryz.prog TE (MJ n)|0=>iZ (fn:=Tryz.f71) (by kernel_rfl) λ_=>rfl|n+1=>MKS n [(58,.lp [.r 14 .I,.o 2 (.bx [(2,.own 3)]),.w (.own .ty),.o 0 .dead] 0 [.o 2 (.bx [(2,.own 3)]),.w (.own .ty),.o 0 .dead])] (.c (MX n) .n) @Tryz.func71
theorem QL n:ah Tryz.prog TE (RL n):=MKS n [(6,.jn [.r 15 .B] false),(500,.fz [7])] (.c (Dt n) (.c (Qb n) (.c (YU n) (.c (YG n) (.c (aap n) (.c (MX n) .n)))))) @Tryz.func33
theorem Yb n:ah Tryz.prog TE (XR n):=mk n [(58,.lp [.r 17 .I,.o 2 (.bx [(3,.mapr 1)]),.o 1 (.mp .val)] 0 [.o 2 (.bx [(3,.mapr 1)]),.o 1 (.mp .val)])] (e:=XR (n)) (inn:=λy=>some (y.2.1,y.2.2.1,y.2.2.2.1,y.2.2.2.2,y.1)) .n @Tryz.func34 (by kernel_rfl) (by intro z y h;first|(cases h;rfl)|(have⟨a,b⟩:=(aZ h).resolve_right λh=>(by cases h.2);cases b;exact Prod.ext (qCr.1 a).symm rfl)|(have⟨a,b⟩:=(aZ h).resolve_right λh=>(by cases h.2);cases b;have⟨f,d⟩:=z;cases d;rfl;cases a)|(simp only[c]at h;split at h<;>cases h;simp_all)) λ_=>by kernel_rfl
theorem Hu n:ah Tryz.prog TE (Zu n):=MKS n [] .n @Tryz.func150
theorem CG n:ah Tryz.prog TE (UY n):=mk n [(6,.jn [.r 8 .B] false)] (e:=UY (n)) (inn:=some) .n @Tryz.func151
theorem Kr n:ah Tryz.prog TE (ady n):=MKS n [] .n @Tryz.func250
theorem Sw n:ah Tryz.prog TE (Eh n):=MKS n [] (.c (Kr n) .n) @Tryz.func249
theorem JU n:ah Tryz.prog TE (U0 n):=MKS n [(3,.jn [.r 2 .B] false)] .n @Tryz.func251
theorem Gf n:ah Tryz.prog TE (uj n):=MKS n [(31,.jn [.r 6 .I,.r 7 .B] false),(60,.lp [.r 9 .I,.r 10 .I] 0 [.r 9 .I])] (.c (ow n) .n) @Tryz.func304
end
end Abs
end Go.Proofs.YtneeginmfjageaaGreat
namespace Go.Proofs
open Go.Shelf
def Tryz.DW:Go.Shelf.Ren:=⟨λ|4=>334|n=>n,λ|22=>27|25=>40|3=>3|4=>4|9=>9|20=>20|0=>0|n=>n,λ|n=>n⟩
set_option maxRecDepth 100000 in
theorem Tryz.aua:Go.Proofs.Lays8.n4 Tryz.prog Tryz.DW:={
 mixed:=by kernel_rfl
 f4:=⟨Tryz.f334.name,by decide,Tryz.func334.trans (congrArg some (by kernel_rfl))⟩
 t0:=Tryz.underlying0
 a0:=Tryz.isAgg0
 z0:=Tryz.sizeOf0
 v0:=Tryz.zeroValue0
 t3:=Tryz.underlying3
 a3:=Tryz.isAgg3
 z3:=Tryz.sizeOf3
 v3:=Tryz.zeroValue3
 t4:=Tryz.underlying4
 a4:=Tryz.isAgg4
 z4:=Tryz.sizeOf4
 v4:=Tryz.zeroValue4
 t9:=Tryz.underlying9
 a9:=Tryz.isAgg9
 z9:=Tryz.sizeOf9
 v9:=Tryz.zeroValue9
 t20:=Tryz.underlying20
 a20:=Tryz.isAgg20
 z20:=Tryz.sizeOf20
 v20:=Tryz.zeroValue20
 t22:=Tryz.underlying27
 a22:=Tryz.isAgg27
 z22:=Tryz.sizeOf27
 v22:=Tryz.zeroValue27}
end Go.Proofs
namespace Go.Proofs.YtneeginmfjageaaGreat
namespace Abs
section
open Go Go.Proofs Go.Lib
theorem aC8:kE Tryz.prog 334=true:=by kernel_rfl
theorem aw6:(Tryz.prog.info? 40).map (λi=>(i.zero.map Value.cells,i.size,i.bytes))=some (some #[.int .i64 0,.int .i64 0,.string ⟨#[]⟩,.slice none 0 0],4,56):=by kernel_rfl
theorem ajC(k:Nat)(hk:k*56<=140737488355328):cK Tryz.prog 334 [.slice [] .nils,.int .i64 k] [] (.slice [] (.tip 0 4)) [.tip 0]:=by
 intro Q ak w R B C M;have D:Q=[]:=qAI.1 B.klen;subst D
 match R,C with
 |[v,u],_=>
 have y:=M 0 (by simp);have N:=M 1 (by simp);simp only[List.getD,qAF,qBs,qAv]at y N;cases N with|int hw=>
 cases y with|@slice _ _ a p b E sz u' g1 g2 g3 g4 g5 g6 g7 S=>
 obtain⟨rfl,rfl⟩:=S;have m:∀{A:World} {s:aM} {T:bJ} {a:Option Addr} {p:Nat},Qw A s a p 4 (.tip 0 4)->Rel A s T (.slice [] (.tip 0 4)) (.slice a 0 p):=λh=>.slice 0 0 4 (λ_ _=>undef) (λi f=>by simp at f) (λh=>absurd rfl h) (qBf _) (qBf _) (λi j f=>by simp at f) (λi j f=>by simp at f) (λi j f=>by simp at f) h
 by_cases y:k=0
 ·subst y;have:=Any8.slices_Grow_room Tryz.aua none 0 0 0 w (qAd _) (qBf _) (qBf _) (qAd _);refine Calls.mono this ?_;rintro e A ⟨rfl,rfl⟩;refine⟨_,[none],rfl,?_,m ⟨rfl,.inl ⟨rfl,rfl⟩⟩⟩;have t:∀l b,at? [none] l≠some b:=λl b h=>by
   cases l with|zero=>cases h|succ l=>cases h
  refine⟨rfl,by simp,λl b h=>(by cases h),λl h=>?_,λl b h=>absurd h (t l b),λl b h=>absurd h (t l b),λl O b h=>absurd h (t l b),λl b h=>absurd h (t l b),λb _ _=>rfl,Evo.refl _ _,λb o h _=>?_,rfl,rfl,rfl⟩;·cases l with|zero=>rfl|succ l=>rfl
  rcases h with h|⟨l,h,_⟩
  ·exact .inl h
  exact absurd h (t l b)
 obtain⟨F,f⟩:∃F,Tryz.prog.info? 40=some F:=by
  have:=aw6;cases h:Tryz.prog.info? 40 with|none=>rw[h]at this;cases this|some i=>exact⟨i,rfl⟩
 have g:=aw6;rw[f]at g;simp only[qAx,Option.some.injEq,Prod.mk.injEq]at g;obtain⟨U,hs,V⟩:=g;obtain⟨z,H,I⟩:=qBv.1 U;have:=Any8.slices_Grow_grow Tryz.aua F z f H (by omega) none 0 0 k [] w (qAd _) (by omega) (by rw[V];omega) (by omega) (by simp) (λ_=>rfl) (λa h=>by cases h);refine Calls.mono this ?_;rintro e A ⟨rfl,rfl⟩;generalize hG:grownCap w (0+k) 0 (Tryz.DW.t 25)=G;have W:k<=G:=by have:=grownCap_ge w (0+k) 0 (Tryz.DW.t 25);omega
 generalize Y:(([]:List Value).toArray++Builtin.zeroCells z.cells (0+k - 0)++Builtin.zeroCells z.cells (G - (0+k)))=X;have Z:X.size=G*4:=by rw[<-Y];simp only[qCm,size_zeroCells,I];simp;omega
 generalize q:w.drew.alloc (.cells X (Tryz.DW.t 25))=J;have d:Go.RowKit.Below w.heap.size w J:=by rw[<-q];exact((qCV _ w).drew).alloc (qAd _) _
 have n:J.heap[w.heap.size]? =some (.cells X (Tryz.DW.t 25)):=by rw[<-q];exact World.alloc_heap_new w.drew _
 have hsz:J.heap.size=w.heap.size+1:=by rw[<-q];exact World.size_alloc _ _
 have r:∀l b,at? [some w.heap.size] l=some b->l=0/\b=w.heap.size:=λl b h=>by
  cases l with|zero=>cases h;exact⟨rfl,rfl⟩|succ l=>cases h
 refine⟨_,[some w.heap.size],rfl,?_,m ⟨rfl,.inr ⟨_,X,_,rfl,rfl,n,by omega⟩⟩⟩;refine⟨rfl,by simp,λl b h=>(by cases h),λl h=>?_,λl b h _=>?_,λl b h _=>.inl ?_,λl O b h h' _ _=>?_,λl b h=>?_,λb K _=>d.block b K,?_,λb o h x=>?_,d.os,d.tape,d.output⟩;·cases l with|zero=>cases h|succ l=>rfl
 ·obtain⟨rfl,rfl⟩:=r l b h;exact⟨X,_,n,by show 0<=X.size;omega⟩
 ·obtain⟨_,rfl⟩:=r l b h;exact qAd _
 ·obtain⟨rfl,_⟩:=r l b h;obtain⟨rfl,_⟩:=r O b h';rfl
 ·obtain⟨_,rfl⟩:=r l b h;omega
 ·exact⟨d.size,λb E u _ L=>by have x:=lt_of_cell L;simp only[World.cell?,d.block b x]at L|-;exact L,λb c e z P=>⟨c,by rw[d.block b (qBi.1 P).1];exact P,rfl⟩⟩
 rcases h with h|⟨l,h,_⟩
 ·exact .inl h
 obtain⟨_,rfl⟩:=r l b h;omega
theorem Y4 n:ah Tryz.prog TE (YF n):=NK aC8 (by kernel_rfl) rfl λ(x:Int) y h d b=>by
 cases b;have h:(bif decide ((0:Int)<=(x:Int))&&decide ((x:Int)*56<=140737488355328)then some ([]:List Val)else none)=some y:=h;rcases aZ h with⟨c,a⟩|⟨_,a⟩
 ·simp only[qAb,decide_eq_true_eq]at c;cases a;obtain⟨k,rfl⟩:∃k:Nat,x=(k:Int):=⟨x.toNat,by omega⟩;exact ajC k (by omega)
 cases a
end
section
open Go Go.Proofs
set_option maxRecDepth 100000
theorem nL n:ah Tryz.prog TE (QJ n):=MKS n [] (.c (Gf n) .n) @Tryz.func253
theorem Dq n:ah Tryz.prog TE (Dk n):=MKS n [] (.c (nL n) .n) @Tryz.func252
theorem M8 n:ah Tryz.prog TE (Al n):=MKS n [] (.c (nL n) .n) @Tryz.func255
theorem an7 n:ah Tryz.prog TE (X9 n):=MKS n [(58,.lp [.w (.own .val),.r 5 (.own 0),.r 10 .I] 0 [.w (.own .val),.r 5 (.own 0)]),(467,.jn [.w (.own .val),.r 5 (.own 1),.o 0 .dead] false)] (.c (M8 n) .n) @Tryz.func156
theorem Da n:ah Tryz.prog TE (Dn n):=MKS n [] (.c (an7 n) .n) @Tryz.func254
theorem ahF n:ah Tryz.prog TE (QE n):=MKS n [(58,.lp [.w (.own .val),.r 5 (.own 0),.r 10 .I] 0 [.w (.own .val),.r 5 (.own 0)]),(467,.jn [.w (.own .val),.r 5 (.own 1),.o 0 .dead] false)] (.c (Dq n) .n) @Tryz.func156
theorem aix n:ah Tryz.prog TE (Rm n):=MKS n [(58,.lp [.w (.own .val),.r 5 (.own 0),.r 10 .I] 0 [.w (.own .val),.r 5 (.own 0)]),(467,.jn [.w (.own .val),.r 5 (.own 1),.o 0 .dead] false)] (.c (Da n) .n) @Tryz.func156
theorem ai3 n:ah Tryz.prog TE (Tk n):=MKS n [] (.c (ow n) .n) @Tryz.func258
theorem ahs n:ah Tryz.prog TE (QX n):=MKS n [(58,.lp [.w (.own .val),.r 5 (.own 1),.r 10 .I] 0 [.w (.own .val),.r 5 (.own 1)]),(467,.jn [.w (.own .val),.r 5 (.own 2),.o 1 .dead] false)] (.c (ai3 n) .n) @Tryz.func156
theorem acT n:ah Tryz.prog TE (MN n):=mk n [(14,.jn [.r 45 .B] false)] (e:=MN (n)) (inn:=some) (.c (CG n) .n) @Tryz.func259
theorem UN n:ah Tryz.prog TE (Fz n):=MKS n [(58,.lp [.r 3 .I,.r 11 .I] 0 [.r 3 .I]),(250,.lp [.w (.own .val),.r 6 (.own 1),.r 27 .I,.o 0 .dead] 2 [.w (.own .val),.r 6 (.own 1),.o 0 .dead])] (.c (Y4 n) .n) @Tryz.func309
theorem zB n:ah Tryz.prog TE (X0 n):=MKS n [] (.c (nL n) .n) @Tryz.func308
theorem ahg n:ah Tryz.prog TE (RU n):=MKS n [(58,.lp [.w (.own .val),.r 5 (.own 1),.r 10 .I] 0 [.w (.own .val),.r 5 (.own 1)]),(467,.jn [.w (.own .val),.r 5 (.own 2),.o 1 .dead] false)] (.c (zB n) .n) @Tryz.func156
theorem am5 n:ah Tryz.prog TE (X3 n):=MKS n [] (.c (zB n) .n) @Tryz.func310
theorem aiq n:ah Tryz.prog TE (QI n):=MKS n [(58,.lp [.w (.own .val),.r 5 (.own 2),.r 10 .I] 0 [.w (.own .val),.r 5 (.own 2)]),(467,.jn [.w (.own .val),.r 5 (.own 3),.o 2 .dead] false)] (.c (am5 n) .n) @Tryz.func156
theorem anC n:ah Tryz.prog TE (Xw n):=MKS n [] (.c (nL n) .n) @Tryz.func311
theorem afZ n:ah Tryz.prog TE (RJ n):=MKS n [(58,.lp [.w (.own .val),.r 5 (.own 1),.r 10 .I] 0 [.w (.own .val),.r 5 (.own 1)]),(467,.jn [.w (.own .val),.r 5 (.own 2),.o 1 .dead] false)] (.c (anC n) .n) @Tryz.func156
theorem XY n:ah Tryz.prog TE (Xk n):=MKS n [] (.c (nL n) .n) @Tryz.func307
theorem ano n:ah Tryz.prog TE (XD n):=MKS n [] (.c (XY n) .n) @Tryz.func312
theorem agY n:ah Tryz.prog TE (QS n):=MKS n [(58,.lp [.w (.own .val),.r 5 (.own 2),.r 10 .I] 0 [.w (.own .val),.r 5 (.own 2)]),(467,.jn [.w (.own .val),.r 5 (.own 3),.o 2 .dead] false)] (.c (ano n) .n) @Tryz.func156
theorem anL n:ah Tryz.prog TE (X5 n):=MKS n [] (.c (XY n) .n) @Tryz.func313
theorem aii n:ah Tryz.prog TE (RH n):=MKS n [(58,.lp [.w (.own .val),.r 5 (.own 2),.r 10 .I] 0 [.w (.own .val),.r 5 (.own 2)]),(467,.jn [.w (.own .val),.r 5 (.own 3),.o 2 .dead] false)] (.c (anL n) .n) @Tryz.func156
theorem amJ n:ah Tryz.prog TE (Xo n):=MKS n [] (.c (zB n) .n) @Tryz.func314
theorem aep n:ah Tryz.prog TE (N9 n):=MKS n [(58,.lp [.w (.own .val),.r 5 (.own 2),.r 10 .I] 0 [.w (.own .val),.r 5 (.own 2)]),(467,.jn [.w (.own .val),.r 5 (.own 3),.o 2 .dead] false)] (.c (amJ n) .n) @Tryz.func156
theorem anG n:ah Tryz.prog TE (Xh n):=MKS n [] (.c (zB n) .n) @Tryz.func315
theorem afA n:ah Tryz.prog TE (Oe n):=MKS n [(58,.lp [.w (.own .val),.r 5 (.own 2),.r 10 .I] 0 [.w (.own .val),.r 5 (.own 2)]),(467,.jn [.w (.own .val),.r 5 (.own 3),.o 2 .dead] false)] (.c (anG n) .n) @Tryz.func156
theorem TQ n:ah Tryz.prog TE (Uo n):=MKS n [(58,.lp [.w (.own .vals),.r 3 (.own 1),.r 11 .I,.o 0 .dead] 0 [.w (.own .vals),.r 3 (.own 1),.o 0 .dead]),(14950,.lp [.w (.own .vals),.r 3 (.own 4),.r 18 .I,.o 1 .dead] 2 [.w (.own .vals),.r 3 (.own 4),.o 1 .dead])] (.c (Qj n) (.c (Eb n) .n)) @Tryz.func316
theorem anv n:ah Tryz.prog TE (XT n):=MKS n [] (.c (zB n) .n) @Tryz.func317
theorem aeY n:ah Tryz.prog TE (Px n):=MKS n [(58,.lp [.w (.own .val),.r 5 (.own 2),.r 10 .I] 0 [.w (.own .val),.r 5 (.own 2)]),(467,.jn [.w (.own .val),.r 5 (.own 3),.o 2 .dead] false)] (.c (anv n) .n) @Tryz.func156
theorem adF n:ah Tryz.prog TE (adf n):=MKS n [(3,.jn [.r 6 .B] false)] .n @Tryz.func337
theorem ake n:ah Tryz.prog TE (UU n):=MKS n [(122,.lp [.r 7 .I,.r 15 .I] 0 []),(15667,.jn [.r 9 .I] true),(125343,.jn [.r 50 .B] false),(2005423,.jn [.r 30 .B] false)] (.c (adF n) .n) @Tryz.func336
theorem Md:∀n,ah Tryz.prog TE (XK n)|0=>iZ (fn:=Tryz.f36) (by kernel_rfl) λ_=>rfl|n+1=>MKS n [(31,.fz [2]),(58,.lp [.r 13 .I,.o 0 (.bx [(3,.psl 2 4)]),.o 2 (.arr .val)] 0 [.o 0 (.bx [(3,.psl 2 4)]),.o 2 (.arr .val)])] (.c (WK n) (.c (Yf n) (.c (Md n) .n))) @Tryz.func36
theorem UQ:∀n,ah Tryz.prog TE (T9 n)|0=>iZ (fn:=Tryz.f101) (by kernel_rfl) λ_=>rfl|n+1=>MKS n [(58,.lp [.r 3 .I] 0 [])] (.c (UQ n) .n) @Tryz.func101
theorem X8:∀n,ah Tryz.prog TE (XJ n)|0=>iZ (fn:=Tryz.f120) (by kernel_rfl) λ_=>rfl|n+1=>MKS n [(122,.lp [.w (.own .s),.r 3 (.own 1),.r 4 .I] 0 [.w (.own .s),.r 3 (.own 1)])] (.c (X8 n) .n) @Tryz.func120
theorem yV n:ah Tryz.prog TE (Ou n):=MKS n [(26,.lp [.r 5 .I] 0 [])] .n @Tryz.func121
theorem VD n:ah Tryz.prog TE (agt n):=MKS n [(58,.lp [.r 6 .I,.o 1 .dead] 0 [.o 1 .dead])] (.c (X8 n) (.c (yV n) .n)) @Tryz.func58
theorem amV n:ah Tryz.prog TE (XL n):=MKS n [(58,.lp [.w (.own .s),.r 3 (.own 1),.r 4 .I] 0 [.w (.own .s),.r 3 (.own 1)]),(122,.lp [.w (.own .s),.r 3 (.own 2),.r 5 .I,.o 1 .dead] 2 [.w (.own .s),.r 3 (.own 2),.o 1 .dead]),(250,.lp [.w (.own .s),.r 3 (.own 3),.r 6 .I,.o 2 .dead] 4 [.w (.own .s),.r 3 (.own 3),.o 2 .dead])] .n @Tryz.func102
theorem L9 n:ah Tryz.prog TE (XO n):=MKS n [(6,.jn [.r 19 .B] false),(58,.lp [.r 3 .I] 0 []),(122,.lp [.r 6 .I] 4 []),(506,.lp [.r 9 .I,.o 0 .dead] 6 [.o 0 .dead]),(3730,.jn [.r 41 .B] false),(3913,.jn [.r 89 .B] false),(14926,.lp [.r 5 .I] 2 [])] (.c (vC n) (.c (aiN n) (.c (Cr n) (.c (UQ n) (.c (VD n) (.c (amV n) (.c (abN n) .n))))))) @Tryz.func50
theorem aln(n:Nat):ah Tryz.prog TE (alZ n):=MKS n [(58,.lp [.r 5 .I] 0 []),(1865,.jn [.r 49 .B] false)] .n @Tryz.func59
theorem aw9(n:Nat):ah Tryz.prog TE (akX n):=MKS n [] .n @Tryz.func198
theorem Ov:∀n,ah Tryz.prog TE (aak n)
 |0=>iZ (fn:=Tryz.f122) (by kernel_rfl) fun _=>rfl
 |n+1=>MKS n [(506,.lp [.r 5 .I] 0 []),(2024,.jn [.r 48 .B] false)] (.c (aw9 n) (.c (Ov n) .n)) @Tryz.func122
theorem V4 n:ah Tryz.prog TE (agE n):=mk n [] (e:=agE (n)) (inn:=some) (.c (zq n) .n) @Tryz.func157
theorem XQ n:ah Tryz.prog TE (XH n):=MKS n [(30,.fz [1]),(58,.lp [.w (.arr .val),.r 3 (.psl 1 4),.r 11 .I,.o 0 .dead] 0 [.w (.arr .val),.r 3 (.psl 1 4),.o 0 .dead])] (.c (zq n) .n) @Tryz.func305
theorem JM n:ah Tryz.prog TE (Va n):=MKS n [(30,.fz [1]),(58,.lp [.w (.arr .val),.r 3 (.psl 1 4),.r 11 .I,.o 0 .dead] 0 [.w (.arr .val),.r 3 (.psl 1 4),.o 0 .dead])] (.c (zq n) .n) @Tryz.func306
theorem QU n:ah Tryz.prog TE (Q8 n):=MKS n [(26,.lp [.r 15 .I] 0 []),(31,.jn [.r 8 .B] false),(1689,.jn [.r 34 .B] false),(7870,.jn [.r 8 .B] false),(31486,.jn [.r 8 .B] false)] (.c (nL n) (.c (XQ n) (.c (JM n) .n))) @Tryz.func257
theorem Dh n:ah Tryz.prog TE (C9 n):=MKS n [] (.c (QU n) .n) @Tryz.func256
theorem aiD n:ah Tryz.prog TE (QK n):=MKS n [(58,.lp [.w (.own .val),.r 5 (.own 0),.r 10 .I] 0 [.w (.own .val),.r 5 (.own 0)]),(467,.jn [.w (.own .val),.r 5 (.own 1),.o 0 .dead] false)] (.c (Dh n) .n) @Tryz.func156
theorem LQ:∀n,ah Tryz.prog TE (LW n)|0=>iZ (fn:=Tryz.f338) (by kernel_rfl) λ_=>rfl|n+1=>MKS n [(7,.jn [.o 3 (.bx [(0,.psl 6 4)]),.o 4 (.dead),.w (.arr .val)] false),(10,.jn [.o 3 (.bx [(0,.psl 6 4)]),.o 4 (.dead),.w (.arr .val)] false),(62,.lp [.r 75 .I,.o 3 (.bx [(0,.psl 7 4)]),.w (.arr .val),.o 6 .dead] 4 [.o 3 (.bx [(0,.psl 7 4)]),.w (.arr .val),.o 6 .dead]),(210,.lp [.r 38 .I,.o 3 (.bx [(0,.psl 6 4)]),.o 4 (.dead),.w (.arr .val)] 0 [.o 3 (.bx [(0,.psl 6 4)]),.o 4 (.dead),.w (.arr .val)]),(499,.jn [.o 3 (.bx [(0,.psl 8 4)]),.w (.arr .val),.o 7 .dead] false),(7986,.jn [.r 86 .B] false),(215450,.lp [.w (.own .val),.r 11 (.own 8),.r 46 .I,.o 3 (.bx [(0,.psl 6 4)]),.o 7 .dead] 2 [.w (.own .val),.r 11 (.own 8),.o 3 (.bx [(0,.psl 6 4)]),.o 7 .dead])] (.c (QU n) (.c (zq n) (.c (TQ n) (.c (Eb n) (.c (Kr n) (.c (LQ n) (.c (JM n) (.c (nL n) .n)))))))) @Tryz.func338
theorem afm n:ah Tryz.prog TE (Oi n):=mk n [(15,.jn [.r 7 (.ptr 3 0),.w (.box [.psl 4 4]),.w (.arr .val)] false),(511,.fz [6])] (e:=Oi (n)) (inn:=some) (.c (ake n) (.c (adF n) (.c (LQ n) .n))) @Tryz.func318
theorem asO n:ah Tryz.prog TE (ado n):=mk n [(63,.jn [.r 11 .Lval,.o 0 .dead,.o 1 .dead,.o 3 .dead,.o 4 .dead,.o 5 .dead,.o 6 .dead] true),(16214,.lp [.w (.own .val),.r 11 (.own 7),.r 12 .I,.o 0 .dead,.o 3 .dead,.o 4 .dead,.o 5 .dead,.o 6 .dead] 1 [.w (.own .val),.r 11 (.own 7),.o 0 .dead,.o 3 .dead,.o 4 .dead,.o 5 .dead,.o 6 .dead]),(4153334,.lp [.w (.own .val),.r 11 (.own 7),.r 86 .I,.o 0 .dead,.o 1 .dead,.o 3 .dead,.o 5 .dead,.o 6 .dead] 3 [.w (.own .val),.r 11 (.own 7),.o 0 .dead,.o 1 .dead,.o 3 .dead,.o 5 .dead,.o 6 .dead]),(33226746,.lp [.w (.own .val),.r 11 (.own 7),.r 118 .I,.o 0 .dead,.o 1 .dead,.o 3 .dead,.o 5 .dead,.o 6 .dead] 7 [.w (.own .val),.r 11 (.own 7),.o 0 .dead,.o 1 .dead,.o 3 .dead,.o 5 .dead,.o 6 .dead]),(1063253606,.lp [.w (.own .val),.r 11 (.own 9),.r 92 .I,.o 7 .dead] 5 [.w (.own .val),.r 11 (.own 9),.o 7 .dead]),(8506047078,.lp [.w (.own .val),.r 11 (.own 9),.r 124 .I,.o 7 .dead] 9 [.w (.own .val),.r 11 (.own 9),.o 7 .dead]),(68048376627,.jn [.w (.own .val),.r 11 (.own 10),.o 9 .dead] false),(68048388086,.lp [.w (.own .val),.r 11 (.own 7),.r 181 .I,.o 0 .dead,.o 1 .dead,.o 3 .dead,.o 4 .dead,.o 5 .dead,.o 6 .dead] 11 [.w (.own .val),.r 11 (.own 7),.o 0 .dead,.o 1 .dead,.o 3 .dead,.o 4 .dead,.o 5 .dead,.o 6 .dead]),(2177548419066,.lp [.w (.own .val),.r 11 (.own 7),.r 203 .I,.o 0 .dead,.o 1 .dead,.o 3 .dead,.o 4 .dead,.o 5 .dead,.o 6 .dead] 13 [.w (.own .val),.r 11 (.own 7),.o 0 .dead,.o 1 .dead,.o 3 .dead,.o 4 .dead,.o 5 .dead,.o 6 .dead])] (e:=ado (n)) (inn:=some) (.c (CG n) (.c (UN n) (.c (ahg n) (.c (aiq n) (.c (Kr n) (.c (XQ n) (.c (afZ n) (.c (ow n) (.c (agY n) (.c (aii n) (.c (aep n) (.c (afA n) (.c (TQ n) (.c (JM n) (.c (aeY n) (.c (afm n) (.c (V4 n) .n))))))))))))))))) @Tryz.func260
theorem aqb n:ah Tryz.prog TE (ZF n):=mk n [(491,.jn [.r 105 .B] false)] (e:=ZF (n)) (inn:=some) (.c (Hu n) (.c (ow n) (.c (Kr n) (.c (ahs n) (.c (acT n) (.c (CG n) (.c (asO n) .n))))))) @Tryz.func158
theorem aO:∀n,ah Tryz.prog TE (tu n)/\ah Tryz.prog TE (sM n)/\ah Tryz.prog TE (tN n)/\ah Tryz.prog TE (BL n)/\ah Tryz.prog TE (yL n)/\ah Tryz.prog TE (mR n)/\ah Tryz.prog TE (wu n)|0=>⟨iZ (fn:=Tryz.f155) (by kernel_rfl) λ_=>rfl,iZ (fn:=Tryz.f155) (by kernel_rfl) λ_=>rfl,iZ (fn:=Tryz.f155) (by kernel_rfl) λ_=>rfl,iZ (fn:=Tryz.f248) (by kernel_rfl) λ_=>rfl,iZ (fn:=Tryz.f154) (by kernel_rfl) λ_=>rfl,iZ (fn:=Tryz.f73) (by kernel_rfl) λ_=>rfl,iZ (fn:=Tryz.f153) (by kernel_rfl) λ_=>rfl⟩|n+1=>⟨mk n [(107,.fz [5]),(127,.fz [3,5,7]),(245,.fz [5])] (e:=tu (n+1)) (inn:=some) (.c (JU n) (.c (aO n).2.2.2.2.2.1 .n)) @Tryz.func155,
  mk n [(107,.fz [5]),(127,.fz [3,5,7]),(245,.fz [5])] (e:=sM (n+1)) (inn:=some) (.c (JU n) (.c (aO n).2.2.2.2.2.1 .n)) @Tryz.func155,
  mk n [(107,.fz [5]),(127,.fz [3,5,7]),(245,.fz [5])] (e:=tN (n+1)) (inn:=some) (.c (JU n) (.c (aO n).2.2.2.2.2.1 .n)) @Tryz.func155,
  mk n [(31,.ca 12 0 4),(122,.lp [.r 31 .I,.o 0 (.bx [(4,.psl 12 5)]),.o 4 (.bx [(0,.psl 13 4)]),.o 5 (.dead),.o 6 (.bx [(0,.lf .b)]),.o 7 (.bx [(0,.lf .b)]),.w (.arr .bnd),.w (.arr .val),.o 9 .dead,.o 10 .dead,.o 11 .dead] 0 [.o 0 (.bx [(4,.psl 12 5)]),.o 4 (.bx [(0,.psl 13 4)]),.o 5 (.dead),.o 6 (.bx [(0,.lf .b)]),.o 7 (.bx [(0,.lf .b)]),.w (.arr .bnd),.w (.arr .val),.o 9 .dead,.o 10 .dead,.o 11 .dead])] (e:=BL (n+1)) (inn:=some) (.c (aO n).2.2.2.2.2.1 (.c (Sw n) .n)) @Tryz.func248,
  mk n [(7,.jn [.r 7 (.ptr 7 0),.w (.box [.psl 8 4]),.w (.arr .val)] false),(126,.fz [10])] (e:=yL (n+1)) (inn:=some) (.c (aO n).2.2.2.1 (.c (Hu n) (.c (V4 n) .n))) @Tryz.func154,
  mk n [(26,.jn [.r 18 .B] false),(250,.lp [.r 123 .I,.o 0 (.bx [(4,.psl 6 5)]),.o 2 (.dead),.o 5 (.bx [(0,.lf (.n .i64)),(1,.lf (.n .i64)),(2,.lf .s),(3,.lf (.l .val)),(4,.lf (.n .i64)),(5,.lf (.n .i64)),(6,.lf .s),(7,.lf (.l .val))]),.w (.arr .bnd)] 3 [.o 0 (.bx [(4,.psl 6 5)]),.o 2 (.dead),.o 5 (.bx [(0,.lf (.n .i64)),(1,.lf (.n .i64)),(2,.lf .s),(3,.lf (.l .val)),(4,.lf (.n .i64)),(5,.lf (.n .i64)),(6,.lf .s),(7,.lf (.l .val))]),.w (.arr .bnd)]),(1962,.lp [.w (.own .val),.r 10 (.own 6),.r 106 .I,.o 0 (.bx [(4,.psl 7 5)]),.o 2 (.dead),.w (.arr .bnd),.o 3 .dead,.o 5 .dead] 1 [.w (.own .val),.r 10 (.own 6),.o 0 (.bx [(4,.psl 7 5)]),.o 2 (.dead),.w (.arr .bnd),.o 3 .dead,.o 5 .dead]),(2003,.jn [.o 0 (.bx [(4,.psl 7 5)]),.o 5 (.bx [(0,.lf (.n .i64)),(1,.lf (.n .i64)),(2,.lf .s),(3,.lf (.l .val)),(4,.lf (.n .i64)),(5,.lf (.n .i64)),(6,.lf .s),(7,.lf (.l .val))]),.w (.arr .bnd),.o 6 .dead] true),(6911,.jn [.r 39 .B] false),(27647,.jn [.r 46 .B] false),(110591,.jn [.r 54 .B] false)] (e:=mR (n+1)) (inn:=some) (.c (Hu n) (.c (CG n) (.c (Wv n) (.c (aO n).2.2.2.2.2.2 (.c (aO n).2.2.2.2.1 (.c (aO n).2.2.2.2.2.1 (.c (aO n).2.2.1 (.c (Dq n) (.c (aO n).2.1 (.c (Da n) (.c (aO n).1 (.c (Dh n) (.c (ahF n) (.c (aix n) (.c (aiD n) (.c (V4 n) (.c (aqb n) .n))))))))))))))))) @Tryz.func73,
  mk n [(28,.jn [.r 14 .B] false),(115,.jn [.r 23 .B] false),(230,.jn [.r 23 .B] false)] (e:=wu (n+1)) (inn:=some) (.c (aO n).2.2.2.2.2.1 (.c (Hu n) .n)) @Tryz.func153⟩
theorem abt n:ah Tryz.prog TE (mR n):=(aO n).2.2.2.2.2.1
end
section
open Go Go.Proofs
theorem aEY:kE Tryz.prog 35=true:=by kernel_rfl
section
variable (n:Nat)(tm:Tm)(cs:List Carrier)(ds:List Decl)(sz:List Int)(mp:List (Str×Val))(bs z:List Bound)(c:Nat)(v:Int)(r:Val)
def Xv:List TObj:=[.box [.lf (.l .car) cs,.lf (.l .dec) ds,.lf (.l .i) sz,.mapr 1,.psl 2 5 none],.mp .val mp,.arr .bnd bs]
def t35:List TV:=[.ptr 0 0,.lf (.t .tm) tm,.tup [],.tup [],.tup [],.tup [],.tup [],.tup [],.tup [],.tup [],.tup [],.tup [],.tup [],.tup [],.tup [],.tup []]
def tA:List TV:=[.ptr 0 0,.lf (.t .tm) tm,.ptr 3 0,.ptr 4 0,.ptr 5 0,.ptr 6 0,.tup [],.tup [],.tup [],.tup [],.tup [],.tup [],.tup [],.tup [],.tup [],.tup []]
def hA:List TObj:=[.box [.lf (.l .car) cs,.lf (.l .dec) ds,.lf (.l .i) sz,.mapr 1,.psl 2 5 none],.mp .val mp,.arr .bnd bs,.box [.ptr 0 0],.box [.lf (.t .tm) tm],.box [.lf (.n .i64) 0,.lf (.n .i64) 0,.lf .s [],.nils],.box [.lf (.n .i64) 0]]
def tB(x:TV):=[.ptr 0 0,.lf (.t .tm) tm,.ptr 3 0,.ptr 4 0,.ptr 5 0,.ptr 6 0,.ptr 7 0,.ptr 0 0,.ptr 0 0,.ptr 0 4,.psl 2 5 none,.nat bs.length,x,.tup [],.tup [],.tup []]
def hB:List TObj:=[.box [.lf (.l .car) cs,.lf (.l .dec) ds,.lf (.l .i) sz,.mapr 1,.psl 2 5 none],.mp .val mp,.arr .bnd bs,.box [.ptr 0 0],.box [.lf (.t .tm) tm],.box [.lf (.n .i64) 0,.lf (.n .i64) 0,.lf .s [],.nils],.box [.lf (.n .i64) 0],.box [.lf (.n .i64) (bs.length:Int)]]
def tP:List TV:=[.ptr 0 0,.lf (.t .tm) tm,.ptr 3 0,.ptr 4 0,.ptr 5 0,.ptr 6 0,.ptr 7 0,.ptr 0 0,.ptr 0 0,.ptr 0 4,.psl 2 5 none,.nat bs.length,.unk,.ptr 0 0,.lf (.t .tm) tm,.tup []]
noncomputable def aeu(t:List TV)(h:List TObj):DS:=⟨t,h,[],[],[],[],[],[]⟩
noncomputable def Yd:Code:=bdy Tryz.f35
noncomputable def o35:List Oper:=opsOf (cL (cR (cR (cR Yd))))
theorem qA:exe ⟨τ,θ,n,Unit,[],3,TE,λ_ _=>none⟩ [] (λ_=>none) (cL Yd) (List TV×List TObj) 2 (aeu (t35 tm) (Xv cs ds sz mp bs)) (λ_=>none) (λe s=>match e with| .normal=>some (s.t,s.h)|_=>none)=some (tA tm,hA tm cs ds sz mp bs):=by kernel_rfl
theorem qB:exe ⟨τ,θ,n,Unit,[],3,TE,λ_ _=>none⟩ [] (λ_=>none) (cL (cR Yd)) (List TV×List TObj) 6 (aeu (tA tm) (hA tm cs ds sz mp bs)) (λ_=>none) (λe s=>match e with| .normal=>some (s.t,s.h)|_=>none)=some (tB tm bs (.tup []),hB tm cs ds sz mp bs):=by kernel_rfl
theorem qI:exe ⟨τ,θ,n,Val×Int×List Bound,[],3,TE,λ_ _=>none⟩ [mR n] (BD τ 3 Tryz.f35.results.toList (iM n).rs some) (cR (cR (cR Yd))) (Val×Int×List Bound) 15 (aeu (tB tm bs .unk) (hB tm cs ds sz mp bs)) some
  (λe s=>match e with| .normal=>BD τ 3 Tryz.f35.results.toList (iM n).rs some s|_=>none)=
  (aI n cs ds sz mp bs tm).bind (PZ.el (λx=>some (x.1,0,x.2)) λ_ _=>none):=by kernel_rfl
theorem qP:Gm (aeu (tB tm bs .unk) (hB tm cs ds sz mp bs)).h 0 (λn'=>VG τ θ [mR n] (λv s=>some (v,s)) o35 o35 n' [] {aeu (tB tm bs .unk) (hB tm cs ds sz mp bs)with h:=(aeu (tB tm bs .unk) (hB tm cs ds sz mp bs)).h++xM (yZ o35)} λ_ _=>none)=
  (aI n cs ds sz mp bs tm).bind (PZ.el (λ_=>none) λv z=>some (v,⟨tP tm bs,hP tm cs ds sz mp bs z++xM 4,[14,13],[(2,0),(0,5),(8,0)],[],[],[],[]⟩)):=by kernel_rfl
theorem qR:BD τ 3 Tryz.f35.results.toList (iM n).rs some ⟨tP tm bs,hC tm cs ds sz mp bs z c v,[],[(2,0),(0,5)],[],[],[],[]⟩=some (Val.mk 0 0 [] [],v,z.take c):=by kernel_rfl
end
theorem ayK cs ds sz mp bs tm t:St 3 (Xv cs ds sz mp bs) (aeu t (hB tm cs ds sz mp bs)):=
 ⟨(LP (m:=0) (h:=hB tm cs ds sz mp bs) (t:=t) (qBf _)).inv,qAe rfl,λl a _=>by
  match l,a with|0,_=>exact .inl rfl|1,_=>exact .inl rfl|2,_=>exact .inl rfl⟩
theorem Mt n:ah Tryz.prog TE (iM n):=by
 refine⟨aEY,by kernel_rfl,λx y A t h M=>?_⟩;obtain⟨m,a,g,p,u,b⟩:=x;obtain⟨rfl,rfl⟩:t=[.ptr 0 0,.lf (.t .tm) m]/\h=Xv a g p u b:=⟨(congrArg Prod.fst M).symm,(congrArg Prod.snd M).symm⟩;clear M;show ∀r E,dJ bI (iM n).rs (eD _ ((iM n).out y)) (dn 2) (Xv a g p u b)=(r,E)->cK Tryz.prog 35 (aT (Xv a g p u b) [.ptr 0 0,.lf (.t .tm) m]) (aA (Xv a g p u b)) (av E (res1 r)) (aA E);intro r E F;have S:∀T∈[mR n],ah Tryz.prog TE T:=λe' C=>by rw[qBa.1 C];exact abt n
 have D:wR Tryz.prog TE=true:=by kernel_rfl
 have B:Tryz.prog.follows .mixedOrders=true:=by kernel_rfl
 have G:AW Tryz.prog 3 (cL Yd) (ZL 3 (aT (hA m a g p u b) (tA m)) (aA (hA m a g p u b))) (aT (Xv a g p u b) (t35 m)) (aA (Xv a g p u b)):=
  acg lH (λe C=>by cases C) D B (LP (h:=Xv a g p u b) (qAd 3)) (qA n m a g p u b)
 have H:AW Tryz.prog 3 (cL (cR Yd)) (ZL 3 (aT (hB m a g p u b) (tB m b (.tup []))) (aA (hB m a g p u b))) (aT (hA m a g p u b) (tA m)) (aA (hA m a g p u b)):=
  acg lH (λe C=>by cases C) D B (LP (h:=hA m a g p u b) (qAe rfl)) (qB n m a g p u b)
 have A:ql n a g p u b m=some y:=A;unfold ql at A;have I:=λ(s:DS) (N:St 3 (Xv a g p u b) s) (V:BD τ 3 Tryz.f35.results.toList (iM n).rs some s=some y)=>ajV (h:=[]) (P:=Tryz.prog) (e:=iM n) (rvs:=Tryz.f35.results.toList) (out:=(iM n).out) (inn:=some) sm (by kernel_rfl) (h0:=Xv a g p u b) rfl rfl rfl N (by rw[<-lH];exact V) F
 have J:3<=E.length:=by have W:_=E:=congrArg Prod.snd F;rw[<-W];exact qAe rfl
 cases C:aI n a g p u b m with
 |none=>rw[C]at A;cases A|some o=>
  rw[C]at A;cases o with
  |ok x=>have O:y=(x.1,0,x.2):=(Option.some.inj A).symm;refine anU (f:=35) (d:=72) (n:=12) (r0:=cL Yd) (r1:=cL (cR Yd)) (r3:=cR (cR (cR Yd))) (TB:=aT (hB m a g p u b) (tB m b (.tup []))) (HB:=aA (hB m a g p u b)) Tryz.func35 rfl (qAe rfl) rfl rfl rfl rfl rfl rfl (qAe rfl) azn (λxs w X=>aFL xs w (by simpa using X)) G H J ?_;exact aDM lH S D B (ayK a g p u b m _) ((qI n m a g p u b).trans (by rw[C,O];rfl)) I
  |er v z=>
   have A:(bif decide ((0:Int)<=v)&&decide (v<=1000)then((Dw (List.length z) (List.length b:Int)).bind λc=>bif Nat.ble c (List.length z)then some (Val.mk 0 0 ([]:Str) [],v,List.take c z)else none)else none)=some y:=A;obtain⟨U,A⟩:=(aZ A).resolve_right λh=>by cases h.2
   simp only[qAb,decide_eq_true_eq]at U;obtain⟨c,Y,A⟩:=ob A;obtain⟨K,A⟩:=(aZ A).resolve_right λh=>by cases h.2
   have O:y=(Val.mk 0 0 [] [],v,z.take c):=(Option.some.inj A).symm;refine amU (f:=35) (d:=72) (n:=12) (r0:=cL Yd) (r1:=cL (cR Yd)) (r3:=cR (cR (cR Yd))) (TB:=aT (hB m a g p u b) (tB m b (.tup []))) (HB:=aA (hB m a g p u b)) (TP:=aT (hP m a g p u b z) (tP m b)) (HP:=aA (hP m a g p u b z)) Tryz.func35 rfl (qAe rfl) rfl rfl rfl rfl rfl rfl (qAe rfl) azn G H J ?_ (aGy m a g p u b z c v U Y K) ?_;·refine AW.seq (x:=.region 3 o35.toArray false) (y:=.ret) ((av0 (id:=3) lH S (ayK a g p u b m _).inv ((qP n m a g p u b).trans (by rw[C];rfl))).mono λe t h Q=>?_);obtain⟨rfl,rfl,rfl⟩:=Q;exact⟨rfl,atc (aT (hP m a g p u b z) (tP m b)) (aA (hP m a g p u b z)) 4⟩
   refine I ⟨tP m b,hC m a g p u b z c v,[],[(2,0),(0,5)],[],[],[],[]⟩ ⟨⟨λi k c L=>(by cases L),λd i j L=>(by cases L),λd x L=>(by cases L)⟩,qAe rfl,λl Z R=>?_⟩ (O▸qR n m a g p u b z c v)
   match l,Z with
   |0,_=>
    refine .inr ⟨_,_,rfl,rfl,rfl,λq Q=>?_⟩
    match q with
    |0=>rfl|1=>rfl|2=>rfl|3=>rfl|4=>cases Q|q+5=>rfl
   |1,_=>exact .inl rfl|2,_=>exact absurd (by simp) R
end
section
open Go Go.Proofs
set_option maxRecDepth 100000
theorem afc:∀n,ah Tryz.prog TE (aos n)
 |0=>iZ (fn:=Tryz.f60) (by kernel_rfl) fun _=>rfl
 |n+1=>MKS n [(14,.jn [.r 164 .B] false),(106,.jn [.r 8 .B] false),(122,.lp [.r 9 .I] 1 []),(430,.jn [.r 8 .B] false),(1726,.jn [.r 8 .B] false),(1956,.jn [.r 203 .B] false),(6910,.jn [.r 8 .B] false)] (.c (yV n) (.c (afc n) (.c (Ov n) .n))) @Tryz.func60
theorem Xj n:ah Tryz.prog TE (Xl n):=MKS n [(26,.lp [.r 5 .I] 0 [])] .n @Tryz.func159
theorem aqm n:ah Tryz.prog TE (aa8 n):=MKS n [] .n @Tryz.func178
theorem WG n:ah Tryz.prog TE (ari n):=MKS n [] .n @Tryz.func177
theorem O1 n:ah Tryz.prog TE (Oj n):=MKS n [(26,.lp [.r 6 .I] 0 []),(1682,.lp [.r 7 .I] 2 [])] .n @Tryz.func161
theorem ap8 n:ah Tryz.prog TE (abk n):=MKS n [(26,.lp [.r 8 .I] 0 [])] (.c (Xj n) (.c (yV n) (.c (aqm n) (.c (WG n) (.c (O1 n) .n))))) @Tryz.func104
theorem Ww n:ah Tryz.prog TE (afW n):=MKS n [(3,.jn [.r 2 .B] false)] .n @Tryz.func105
theorem aen n:ah Tryz.prog TE (apL n):=MKS n [] .n @Tryz.func28
theorem zm:∀n,ah Tryz.prog TE (XB n)|0=>iZ (fn:=Tryz.f181) (by kernel_rfl) λ_=>rfl|n+1=>MKS n [(6,.jn [.r 26 .B] false),(58,.lp [.r 5 .I] 0 [])] (.c (zm n) .n) @Tryz.func181
theorem aoG n:ah Tryz.prog TE (aqz n):=MKS n [(26,.lp [.r 5 .I] 0 [])] (.c (zm n) .n) @Tryz.func179
theorem amA n:ah Tryz.prog TE (amk n):=MKS n [] .n @Tryz.func180
theorem ayb n:ah Tryz.prog TE (alQ n):=MKS n [] .n @Tryz.func264
theorem auQ n:ah Tryz.prog TE (aho n):=MKS n [(26,.jn [.r 7 .B] false),(107,.jn [.r 11 .B] false),(431,.jn [.r 21 .B] false),(1726,.jn [.r 5 .B,.o 0 (.bx [(0,.k (.n .i64 2)),(1,.k (.s ([]:Str))),(2,.k (.l .ty))])] false),(1727,.jn [.r 36 .B] false),(6910,.jn [.r 5 .B,.o 0 (.bx [(0,.k (.n .i64 2)),(1,.k (.s ([]:Str))),(2,.k (.l .ty))])] false),(6911,.jn [.r 54 .B] false),(27647,.jn [.r 63 .B] false),(110590,.jn [.r 5 .B,.o 0 (.bx [(0,.k (.n .i64 2)),(1,.k (.s ([]:Str))),(2,.k (.l .ty))])] false),(442366,.jn [.r 5 .B,.o 0 (.bx [(0,.k (.n .i64 2)),(1,.k (.s ([]:Str))),(2,.k (.l .ty))])] false)] (.c (ayb n) (.c (aoG n) (.c (Ww n) (.c (zm n) (.c (aen n) (.c (WG n) .n)))))) @Tryz.func182
theorem avm n:ah Tryz.prog TE (aiC n):=MKS n [(3,.jn [.r 2 .B] false)] .n @Tryz.func265
theorem asY n:ah Tryz.prog TE (ada n):=MKS n [] .n @Tryz.func266
theorem avT n:ah Tryz.prog TE (ahK n):=MKS n [] .n @Tryz.func267
theorem amH n:ah Tryz.prog TE (Xx n):=MKS n [(15,.jn [.o 2 (.bx [(0,.lf (.n .i64)),(1,.lf .s),(2,.lf (.l .ty))])] false),(30,.jn [.r 16 .B] false),(8111,.jn [.r 59 .B] false),(16220,.jn [.r 49 .B] false),(32447,.jn [.r 70 .B] false)] (.c (avm n) (.c (zm n) (.c (asY n) (.c (avT n) (.c (amA n) (.c (WG n) .n)))))) @Tryz.func183
theorem az3 n:ah Tryz.prog TE (ap0 n):=MKS n [(107,.jn [.r 12 .B] false),(1726,.jn [.r 5 .B,.o 1 (.bx [(0,.k (.n .i64 4)),(1,.k (.s ([]:Str))),(2,.lf (.l .ty))])] false),(6910,.jn [.r 5 .B,.o 1 (.bx [(0,.k (.n .i64 5)),(1,.k (.s ([]:Str))),(2,.lf (.l .ty))])] false),(442366,.jn [.r 5 .B,.o 1 (.bx [(0,.lf (.n .i64)),(1,.lf .s),(2,.lf (.l .ty))])] false),(3538940,.jn [.r 103 .B] false),(7077887,.jn [.r 123 .B] false),(113246207,.jn [.r 143 .B] false),(452984830,.jn [.r 5 .B,.o 1 (.bx [(0,.lf (.n .i64)),(1,.lf .s),(2,.lf (.l .ty))])] false),(452984831,.jn [.r 163 .B] false),(3623878652,.jn [.r 181 .B] false),(7247757307,.jn [.o 2 (.bx [(0,.k (.n .i64 5)),(1,.k (.s ([]:Str))),(2,.lf (.l .ty))])] false)] (.c (aen n) (.c (aoG n) (.c (amA n) (.c (WG n) (.c (Ww n) (.c (zm n) (.c (auQ n) (.c (amH n) .n)))))))) @Tryz.func106
end
section
open Go Go.Proofs
set_option maxRecDepth 100000
theorem adU:∀n,ah Tryz.prog TE (adH n)|0=>iZ (fn:=Tryz.f51) (by kernel_rfl) λ_=>rfl|n+1=>MKS n [(30,.jn [.r 44 .B] false),(506,.lp [.w (.own .ty),.r 12 (.own 4),.r 13 .I] 0 [.w (.own .ty),.r 12 (.own 4)]),(16201,.jn [.r 14 .Ldec] true),(32402,.jn [.r 60 .B] false)] (.c (ap8 n) (.c (VD n) (.c (SE n) (.c (adU n) (.c (Ww n) (.c (az3 n) (.c (Cr n) .n))))))) @Tryz.func51
theorem Mq:∀n,ah Tryz.prog TE (Yc n)|0=>iZ (fn:=Tryz.f52) (by kernel_rfl) λ_=>rfl|n+1=>MKS n [(58,.lp [.r 4 .I,.o 2 (.bx [(2,.own 3)]),.w (.own .ty)] 0 [.o 2 (.bx [(2,.own 3)]),.w (.own .ty)])] (.c (Mq n) .n) @Tryz.func52
theorem Ke n:ah Tryz.prog TE (adZ n):=MKS n [(6,.jn [.r 17 .B] false)] (.c (L9 n) (.c (za n) (.c (adU n) (.c (Mq n) .n)))) @Tryz.func23
theorem D6 n:ah Tryz.prog TE (ac4 n):=MKS n [] .n @Tryz.func29
end
section
open Go Go.Proofs
set_option maxRecDepth 100000
end
section
open Go Go.Proofs
set_option maxRecDepth 100000
theorem aay n:ah Tryz.prog TE (K9 n):=MKS n [(14,.jn [.r 21 .B] false)] (.c (QL n) .n) @Tryz.func40
theorem aj1(n:Nat):ah Tryz.prog TE (Ue n):=MKS n [] (.c (ZT n) .n) @Tryz.func116
theorem KW(n:Nat):ah Tryz.prog TE (yw n):=MKS n [(26,.lp [.r 8 .I] 0 [])] (.c (aj1 n) .n) @Tryz.func192
theorem Ih(n:Nat):ah Tryz.prog TE (vH n):=MKS n [] (.c (KW n) .n) @Tryz.func114
theorem aqA(n:Nat):ah Tryz.prog TE (ZG n):=MKS n [(3,.jn [.r 4 .B] false)] (.c (tJ n) (.c (DC n) (.c (Ih n) .n))) @Tryz.func55
theorem au9(n:Nat):ah Tryz.prog TE (agA n):=MKS n [(3,.jn [.r 8 .B] false)] (.c (Dt n) (.c (RY n) (.c (aqA n) (.c (agN n) .n)))) @Tryz.func24
end
section
open Go Go.Proofs
set_option maxRecDepth 100000
theorem zY n:ah Tryz.prog TE (adC n):=MKS n [(6,.jn [.r 18 .B] false)] (.c (MG n) (.c (Qb n) (.c (QL n) (.c (Yb n) (.c (Mt n) (.c (Md n) .n)))))) @Tryz.func12
theorem t_eval_interp_holds n:ah Tryz.prog TE (e_eval_interp_holds n):=MKS n [(7,.jn [.r 4 .B,.r 5 .I] false)] (.c (Mt n) .n) @Tryz.func41
theorem xJ n:ah Tryz.prog TE (aaf n):=MKS n [(6,.jn [.r 14 .B] false)] (.c (MG n) (.c (Qb n) (.c (aay n) (.c (Yb n) (.c (t_eval_interp_holds n) .n))))) @Tryz.func14
end
section
open Go Go.Proofs
set_option maxRecDepth 100000
theorem aBv(n:Nat):ah Tryz.prog TE (aou n):=MKS n [(3,.jn [.r 8 .B] false)] (.c (L9 n) (.c (Cr n) (.c (VD n) (.c (aln n) (.c (afc n) .n))))) @Tryz.func25
theorem ayr n:ah Tryz.prog TE (alU n):=MKS n [(3,.jn [.r 2 .B] false)] (.c (SI n) (.c (NG n) .n)) @Tryz.func126
theorem adK n:ah Tryz.prog TE (SK n):=MKS n [(6,.jn [.r 17 .B] false),(122,.lp [.r 3 .I,.r 4 .I] 0 [.r 3 .I])] (.c (NG n) .n) @Tryz.func130
theorem axu n:ah Tryz.prog TE (alp n):=MKS n [(58,.lp [.r 6 .I] 0 []),(932,.jn [.r 40 .B] false)] (.c (abN n) .n) @Tryz.func131
theorem afn n:ah Tryz.prog TE (afb n):=mk n [(12,.lp [.r 1 .I] 0 [.r 1 .I]),(48,.jn [.r 29 .B] false),(124,.lp [.r 5 .I] 2 [.r 5 .I]),(496,.jn [.r 48 .B] false),(508,.jn [.r 55 .B] false),(2035,.jn [.r 67 .B] false),(32574,.jn [.r 6 .S] false),(32575,.jn [.r 103 .B] false),(65148,.jn [.r 94 .B] false)] (e:=afb (n)) (inn:=λy=>some (S_refinementref01_token.mk y.1 y.2.1 y.2.2)) (.c (ayr n) (.c (SI n) (.c (aa6 n) (.c (NG n) (.c (adK n) (.c (axu n) .n)))))) @Tryz.func63 (by kernel_rfl) (by intro z y h;first|(cases h;rfl)|(have⟨a,b⟩:=(aZ h).resolve_right λh=>(by cases h.2);cases b;exact Prod.ext (qCr.1 a).symm rfl)|(have⟨a,b⟩:=(aZ h).resolve_right λh=>(by cases h.2);cases b;have⟨f,d⟩:=z;cases d;rfl;cases a)|(simp only[c]at h;split at h<;>cases h;simp_all)) λ_=>by kernel_rfl
theorem xq n:ah Tryz.prog TE (IV n):=MKS n [] .n @Tryz.func66
theorem TJ n:ah Tryz.prog TE (IW n):=MKS n [(3,.jn [.r 4 .B] false)] .n @Tryz.func132
theorem O4 n:ah Tryz.prog TE (Oa n):=MKS n [] (.c (xq n) .n) @Tryz.func201
theorem ES n:ah Tryz.prog TE (Fa n):=MKS n [(1,.jn [.o 0 (.bx [(4,.lf (.n .i64)),(5,.lf (.n .i64)),(6,.lf (.n .i64))])] false),(3,.jn [.o 0 (.bx [(4,.lf (.n .i64))])] false)] (.c (abN n) (.c (O4 n) (.c (afn n) .n))) @Tryz.func133
theorem wP n:ah Tryz.prog TE (DL n):=MKS n [] (.c (O4 n) .n) @Tryz.func136
theorem afl n:ah Tryz.prog TE (EW n):=MKS n [] (.c (xq n) (.c (TJ n) (.c (wP n) (.c (ES n) .n)))) @Tryz.func291
theorem Vz n:ah Tryz.prog TE (yP n):=MKS n [(7,.jn [.r 2 .B] false)] (.c (afn n) .n) @Tryz.func329
theorem anj n:ah Tryz.prog TE (XC n):=MKS n [] .n @Tryz.func331
theorem ajf n:ah Tryz.prog TE (Tx n):=MKS n [] .n @Tryz.func332
theorem axb n:ah Tryz.prog TE (amf n):=MKS n [] .n @Tryz.func333
theorem asP n:ah Tryz.prog TE (ade n):=MKS n [] (.c (anj n) (.c (ajf n) (.c (axb n) .n))) @Tryz.func292
theorem Wu n:ah Tryz.prog TE (yH n):=MKS n [(6,.jn [.r 20 .B] false)] (.c (asP n) .n) @Tryz.func204
theorem aex n:ah Tryz.prog TE (EX n):=MKS n [(30,.jn [.r 21 .B] false)] (.c (xq n) (.c (SQ n) (.c (wP n) (.c (ES n) .n)))) @Tryz.func330
theorem asr n:ah Tryz.prog TE (SN n):=MKS n [(58,.lp [.r 4 .I] 0 [])] .n @Tryz.func290
end
section
open Go Go.Proofs
set_option maxRecDepth 100000
theorem ahW n:ah Tryz.prog TE (H9 n):=MKS n [(1,.jn [.r 11 .B] false)] (.c (xq n) (.c (wP n) .n)) @Tryz.func65
end
section
open Go Go.Proofs
set_option maxRecDepth 100000
noncomputable def P1(n:Nat)(E:List Ent)(fn:Func)(f a:Nat)(ps:List Ed)(b:Nat)(s:List Ed)(hs:List (Nat×Hn)):Ent:=
 ⟨f,a,ps,b,s,jr (bF s),none,none,λx=>ajx τ θ n hs E TE fn ⟨f,a,ps,b,s,jr (bF s),none,none,λ_=>none,λr=>r⟩ some x,λr=>r⟩
theorem mkP{n E fn f a ps r s hs}(b:EOs Tryz.prog TE E)(c:Tryz.prog.funcs[f]? =some fn)(d:akK Tryz.prog fn (P1 n E fn f a ps r s hs)=true):ah Tryz.prog TE (P1 n E fn f a ps r s hs):=
 mk n hs (e:=P1 n E fn f a ps r s hs) (inn:=some) b c d (λz y h=>by cases h;rfl) λ_=>rfl
theorem EOs.app{P te l m}(h:EOs P te l)(k:EOs P te m):EOs P te (l++m):=by
 induction h with|n=>exact k|c h _ i=>exact .c h i
abbrev pi:Sk:=.lf (.n .i64)
abbrev pbx:Ed:=.w (.box [.S,pi,.S,pi,pi,pi,pi])
abbrev KH:Ed:=.o 0 (.bx [(1,pi),(2,.lf .s),(3,pi),(4,pi),(5,pi),(6,pi)])
def PB n:=[R7 n,V6 n,SK n,afb n,H9 n,yP n,IW n,EW n,EX n,IV n,yH n,Fa n,DL n,SN n]
theorem aCb n:EOs Tryz.prog TE (PB n):=.c (SQ n) (.c (za n) (.c (adK n) (.c (afn n) (.c (ahW n) (.c (Vz n) (.c (TJ n) (.c (afl n) (.c (aex n) (.c (xq n) (.c (Wu n) (.c (ES n) (.c (wP n) (.c (asr n) (.n))))))))))))))
noncomputable def PR n E:=
 [P1 n E Tryz.f328 328 1 [.r 0 (.ptr 0 0),pbx] 1 [.r 0 .Tty,KH] [(115,.jn [.r 16 .B] false)],
  P1 n E Tryz.f289 289 2 [.r 0 (.ptr 0 0),.r 1 pi,pbx] 1 [.r 0 .Ttm,KH] [],
  P1 n E Tryz.f135 135 3 [.r 0 (.ptr 0 0),.r 1 .Ttm,.r 2 pi,pbx] 1 [.r 0 .Ttm,KH] [(12,.lp [KH,.o 1 (.bx [(0,pi),(1,.lf .s),(2,pi),(3,pi),(4,.lf .s),(5,.lf (.l .ty)),(6,.lf (.l .tm))])] 0 [KH,.o 1 (.bx [(0,pi),(1,.lf .s),(2,pi),(3,pi),(4,.lf .s),(5,.lf (.l .ty)),(6,.lf (.l .tm))])]),(6330,.jn [.r 19 .B] false)],
  P1 n E Tryz.f288 288 1 [.r 0 (.ptr 0 0),pbx] 1 [.r 0 .Ttm,KH] [(31,.jn [KH,.o 2 (.bx [(0,pi),(1,.lf .s),(2,pi),(3,pi),(4,.lf .s),(5,.lf (.l .ty)),(6,.lf (.l .tm))]),.o 3 .dead] true),(62,.jn [.r 42 .B] false),(508,.lp [KH,.o 5 (.bx [(6,.own 6)]),.w (.own .tm),.o 2 .dead,.o 4 .dead] 2 [KH,.o 5 (.bx [(6,.own 6)]),.w (.own .tm),.o 2 .dead,.o 4 .dead]),(2032,.jn [.r 89 .B] false),(4014,.jn [.r 54 .B] false),(32126,.lp [.r 8 pi,KH,.o 2 (.bx [(0,pi),(1,.lf .s),(2,pi),(3,pi),(4,.lf .s),(5,.lf (.l .ty)),(6,.lf (.l .tm))]),.o 3 .dead,.o 4 .dead,.o 5 .dead] 0 [KH,.o 2 (.bx [(0,pi),(1,.lf .s),(2,pi),(3,pi),(4,.lf .s),(5,.lf (.l .ty)),(6,.lf (.l .tm))]),.o 3 .dead,.o 4 .dead,.o 5 .dead])],
  P1 n E Tryz.f202 202 1 [.r 0 (.ptr 0 0),pbx] 1 [.r 0 .Ttm,KH] [(30408703,.jn [.r 73 .B] false)],
  P1 n E Tryz.f134 134 1 [.r 0 (.ptr 0 0),pbx] 1 [.r 0 .Ttm,KH] [(28,.lp [KH,.o 2 (.bx [(0,pi),(1,.lf .s),(2,pi),(3,pi),(4,.lf .s),(5,.lf (.l .ty)),(6,.lf (.l .tm))])] 0 [KH,.o 2 (.bx [(0,pi),(1,.lf .s),(2,pi),(3,pi),(4,.lf .s),(5,.lf (.l .ty)),(6,.lf (.l .tm))])])],
  P1 n E Tryz.f64 64 2 [.r 0 (.ptr 0 0),.r 1 pi,pbx] 1 [.r 0 .Ttm,KH] [(51,.jn [.r 10 .B] false),(207,.jn [.r 23 .B] false)],
  P1 n E Tryz.f203 203 2 [.r 0 (.ptr 0 0),.r 1 .S,pbx] 1 [.r 0 .Ttm,KH] []]
noncomputable def PE:Nat->List Ent|0=>[]|n+1=>PR n (PE n++PB n)
theorem aB3:∀n,EOs Tryz.prog TE (PE n)
 |0=>.n|n+1=>have h:=(aB3 n).app (aCb n)
  .c (mkP h @Tryz.func328 (by kernel_rfl)) (.c (mkP h @Tryz.func289 (by kernel_rfl)) (.c (mkP h @Tryz.func135 (by kernel_rfl)) (.c (mkP h @Tryz.func288 (by kernel_rfl)) (.c (mkP h @Tryz.func202 (by kernel_rfl)) (.c (mkP h @Tryz.func134 (by kernel_rfl)) (.c (mkP h @Tryz.func64 (by kernel_rfl)) (.c (mkP h @Tryz.func203 (by kernel_rfl)) (.n))))))))
noncomputable def agr n:=P1 n (PE n++PB n) Tryz.f30 30 1 [.r 0 .S] 3 [.r 0 .Ttm,.r 1 pi,.r 2 pi] []
theorem awg n:ah Tryz.prog TE (agr n):=mkP ((aB3 n).app (aCb n)) @Tryz.func30 (by kernel_rfl)
noncomputable def Vy(n:Nat)(s:Str):Option (Tm×Int×Int):=(agr n).F s
noncomputable def Ny n:=(Vy n [99,97,114,100,40,65,32,43,45,62,32,123,49,125,41]).bind λ(b:Tm×Int×Int)=>(Vy n ([110,32,61,32,48,32,111,114,32,54,32,47,32,110,32,61,32,50]:Str)).bind λ(c:Tm×Int×Int)=>((lg n (S_api_World.mk (Env.mk ([(Carrier.mk ([65]:Str) ([]))]) ([(Decl.mk ([110]:Str) (Ty.mk 1 ([]:Str) ([])))])) ([2]) ([(Val.mk 1 3 ([]:Str) ([]))])) b.1).bind λ(x:Val×Int)=>((jm n (S_api_World.mk (Env.mk ([(Carrier.mk ([65]:Str) ([]))]) ([(Decl.mk ([110]:Str) (Ty.mk 1 ([]:Str) ([])))])) ([2]) ([(Val.mk 1 3 ([]:Str) ([]))])) c.1).bind λ(a:Bool×Int)=>(((cond (x.2==0) (cond (x.1.kind==1) (cond (x.1.n==4) (cond (a.2==0) (some a.1) (some false)) (some false)) (some false)) (some false)):Option Bool).bind λ(s:Bool)=>some s)))
noncomputable def Gq(n:Nat):Ent:=⟨11,0,[],1,[.r 0 .B],Bool,none,none,λx=>Ny n,λr=>r⟩
theorem ap9 n:ah Tryz.prog TE (Gq n):=mk n [(255,.jn [.r 0 .B] false)] (e:=Gq (n)) (inn:=some) (.c (aen n) (.c (D6 n) (.c (awg n) (.c (zY n) (.c (xJ n) .n))))) @Tryz.func11
end
section
open Go Go.Proofs
set_option maxRecDepth 100000
set_option maxRecDepth 100000 in
theorem aEn:Vy 150 [99,97,114,100,40,65,32,43,45,62,32,123,49,125,41]=some (.mk 47 [] 0 (.mk 0 [] []) [.mk 42 [] 0 (.mk 0 [] []) [.mk 20 [65] 0 (.mk 0 [] []) [],.mk 28 [] 0 (.mk 0 [] []) [.mk 19 [] 1 (.mk 0 [] []) []]]],0,0):=by kernel_rfl
theorem aES:Vy 150 [110,32,61,32,48,32,111,114,32,54,32,47,32,110,32,61,32,50]=some (.mk 5 [] 0 (.mk 0 [] []) [.mk 10 [] 0 (.mk 0 [] []) [.mk 20 [110] 0 (.mk 0 [] []) [],.mk 19 [] 0 (.mk 0 [] []) []],.mk 10 [] 0 (.mk 0 [] []) [.mk 25 [] 0 (.mk 0 [] []) [.mk 19 [] 6 (.mk 0 [] []) [],.mk 20 [110] 0 (.mk 0 [] []) []],.mk 19 [] 2 (.mk 0 [] []) []]],0,0):=by kernel_rfl
theorem avC:Ny 150=some true:=by
 unfold Ny;rw[aEn,aES]
 kernel_rfl
theorem aEs m:(Gq m).F ()=Ny m:=rfl
theorem Ct n:ah Tryz.prog TE (ag6 n):=by have h:=ap9 150;have b:kE Tryz.prog 11=true:=h.1;have a:=h.2.2 () true ((aEs 150).trans avC);refine⟨b,by kernel_rfl,λx y c=>?_⟩;cases c;dsimp only[Gq]at a;dsimp only[ag6];exact a
end
section
open Go Go.Proofs
set_option maxRecDepth 100000
theorem akH(n:Nat):ah Tryz.prog TE (UL n):=MKS n [(6,.jn [.r 18 .B] false),(63,.jn [.r 4 .B] false),(122,.jn [.r 4 .B] false)] (.c (CZ n) (.c (CW n) (.c (Ct n) (.c (zY n) (.c (Ke n) (.c (au9 n) (.c (aBv n) .n))))))) @Tryz.func7
end
section
open Go
theorem iG{e}(h:aW e=true):e.carriers.length<=8/\e.names.length<=64/\e.carriers.all Mf=true/\e.names.all (Cc e)=true/\(names2 e).Nodup:=by
 simp only[aW,qAb,ad6]at h
 grind
theorem Vx{e}(h:aW e=true){d}(a:d∈e.names):named d.name=true/\dI d.ty=true/\yE 2 d.ty=false/\(dK d.ty).all (dx e)=true:=by
 have:=qAJ.1 (iG h).2.2.2.1 d a;simp only[Cc]at this
 grind
theorem Lx{e}(h:aW e=true){c}(a:c∈e.carriers):ident c.name=true/\c.elems.length<=8/\c.elems.all ident=true:=by
 have:=qAJ.1 (iG h).2.2.1 c a;simp only[Mf]at this
 grind
def pq(s:Str):Ty:=.mk 3 s []
def aj(t:Ty):Ty:=.mk 5 [] [t]
def jO(c:Carrier):=(c.name,aj (pq c.name))::c.elems.map λe=>(e,pq c.name)
def vI(e:Env):=e.carriers.flatMap jO++e.names.map λd=>(d.name,d.ty)
def aoH(n:Env):=(n.names.map λd=>(d.name,d.ty))++((n.carriers.map λc=>(c.name,aj (pq c.name)))++n.carriers.flatMap λc=>c.elems.map λe=>(e,pq c.name))
def look env s:=dO (aoH env) s
theorem aiB env:(vI env).Perm (aoH env):=by
 refine List.Perm.trans ?_ qDJ;refine qCD _ ?_;generalize env.carriers=s
 induction s with|nil=>simp|cons c s i=>simp;refine List.Perm.cons _ ?_;refine(List.Perm.append_left _ i).trans ?_;rw[<-qAm,<-qAm];exact qCD _ qDJ
theorem ac7 env:(vI env).map (·.1)=Gy env:=by
 simp only[vI,qAX,qBl,List.map_flatMap,jO];congr 1
 congr 1;simp[qCA]
theorem BP{e}(h:aW e=true):((vI e).map (·.1)).Nodup:=by rw[ac7,(Ns e).nodup_iff];exact(iG h).2.2.2.2
theorem BX{e}(h:aW e=true){s t}:look e s=some t↔(s,t)∈vI e:=by unfold look;rw[<-ahC (aiB e) (BP h),xU _ _ _ (BP h)]
theorem aAC{v}(h:aW v=true):Ev (λn=>Hz n v) (fB (vI v) []):=by
 obtain⟨F,C,_,_,_⟩:=iG h;unfold Hz;have q:∀(c:Carrier) (m:List (Str×Ty)),c.elems.length<=8->m.length<=10000->Ev (λn=>uT n c n (0,m)) (.nx (fB (c.elems.map λe=>(e,pq c.name)) m)):=λc m G K=>by
  have j:=qO (ρ:=List (Str×Ty)) c.elems (λn k i s=>uT n c k (i,s)) (λn x s=>wY s x (pq c.name)) (λx s=>ko s x (pq c.name)) (λs=>s) (λsuf s=>s.length+suf.length<=10008)
   (λn k i s=>rfl)
   (λx suf s t o=>by
    simp only[qAo]at o;refine⟨?_,?_⟩;·rw[J3 (by omega)];exact Ev.ret _
    have:=BR s x (pq c.name);omega) (s0:=m) (by omega)
  have H:∀(l:List Str) (m:List (Str×Ty)),l.foldl (λs x=>ko s x (pq c.name)) m=fB (l.map λe=>(e,pq c.name)) m:=by
   intro l
   induction l with|nil=>intro m;rfl|cons e l g=>intro m;rw[qBg,g];rfl
  rw[H]at j;exact j
 have j:=UD v.carriers (λn k i s=>Rb n v k (i,s)) (λn x s=>(wY s x.name (aj (pq x.name))).bind λx4=>(uT n x n (0,x4)).bind (LR.el (λs6=>some (.nx s6)) (λr=>some (.rt r)))) (λx s=>.nx (fB (jO x) s)) (λs=>s)
  (λsuf s=>s.length+9*suf.length<=100)
  (λn k i s=>by
   show cond _ _ _=_;congr 1;show(idx v.carriers i).bind _=_;congr 1;funext x;show(wY s x.name (aj (pq x.name))).bind _=_;cases wY s x.name (aj (pq x.name))with|none=>rfl|some y=>
    simp only[qAa];cases uT n x n (0,y)with|none=>rfl|some r=>cases r<;>rfl)
  (λx suf s t o=>by
   simp only[qAo]at o;have u:=(Lx h t).2.1;refine⟨?_,λs' I=>?_⟩;·rw[J3 (by omega)];simp only[qAa];have:=BR s x.name (aj (pq x.name));exact Ev.bind (q x _ u (by omega)) (Ev.ret _)
   cases I;have:=Nf (jO x) s;simp only[jO,qAo,qAg]at this|-;omega) (s0:=([]:List (Str×Ty))) (by simp only[qAC];omega)
 rw[Ze]at j;have w:∀(f:List Carrier) (m:List (Str×Ty)),f.foldl (λs x=>fB (jO x) s) m=fB (f.flatMap jO) m:=by
  intro f
  induction f with|nil=>intro m;rfl|cons c f g=>intro m;rw[qBg,g,qBh,Vp]
 rw[w]at j;have J:(fB (v.carriers.flatMap jO) []).length<=100:=by
  have z:∀f:List Carrier,(∀c∈f,c.elems.length<=8)->(f.flatMap jO).length<=9*f.length:=by
   intro f
   induction f with|nil=>intro _;simp|cons c f g=>intro D;have a:=D c (qBD ..);have b:=g λc A=>D c (qAl _ A);simp only[qBh,qAf,jO,qAo,qAg]at b|-;omega
  have a:=z v.carriers λc A=>(Lx h A).2.1;have b:=Nf (v.carriers.flatMap jO) [];simp only[qAC]at b;omega
 have E:=qO (ρ:=List (Str×Ty)) v.names (λn k i s=>Q6 n v k (i,s)) (λn x s=>wY s x.name x.ty) (λx s=>ko s x.name x.ty) (λs=>s) (λsuf s=>s.length+suf.length<=1000)
  (λn k i s=>rfl)
  (λx suf s t o=>by
   simp only[qAo]at o;refine⟨?_,?_⟩;·rw[J3 (by omega)];exact Ev.ret _
   have:=BR s x.name x.ty;omega) (s0:=fB (v.carriers.flatMap jO) []) (by omega)
 have B:∀(p:List Decl) (m:List (Str×Ty)),p.foldl (λs x=>ko s x.name x.ty) m=fB (p.map λd=>(d.name,d.ty)) m:=by
  intro p
  induction p with|nil=>intro m;rfl|cons e l g=>intro m;rw[qBg,g];rfl
 rw[B,<-Vp]at E;exact Ev.bind j (Ev.bind E (Ev.ret _))
def aR:Ty:=.mk 0 [] []
def avQ(e:Env)(s:Str):Ty×Bool:=match look e s with|some t=>(t,true)|none=>(aR,false)
theorem Pk{α}(a b:List (Str×α)) k:dO (a++b) k=match dO a k with|some v=>some v|none=>dO b k:=by
 induction a with|nil=>rfl|cons p a i=>
  rw[qAO,nk,nk]
  grind
theorem R3{α β:Type}(f:α->Str)(g:α->β)(l:List α) k:dO (l.map λx=>(f x,g x)) k=(l.find? λx=>f x==k).map g:=by
 induction l with|nil=>rfl|cons x l i=>
  rw[qAz,nk,qCj,i]
  grind
theorem awp(cs:List Carrier) k:dO (cs.flatMap λc=>c.elems.map λe=>(e,pq c.name)) k=(cs.find? λc=>c.elems.any (·==k)).map λc=>pq c.name:=by
 induction cs with|nil=>rfl|cons c cs i=>
  rw[qBh,Pk,qCj,i];rw[R3 (λe=>e) (λ_=>pq c.name)];cases h:c.elems.find? (λe=>e==k)with|none=>grind|some e=>grind
def abZ(s:Str):Int->List Carrier->Int×Int|_,[]=>(-1, -1)|i,c::a=>cond (c.elems.any (·==s)) (i,gX (·==s) 0 c.elems) (abZ s (i+1) a)
theorem alI s:∀cs i,(abZ s i cs).1=gX (λc=>c.elems.any (·==s)) i cs
 |[],_=>rfl|c::cs,i=>by
  simp only[abZ,gX];cases c.elems.any (·==s);·exact alI s cs (i+1)
  rfl
theorem ajj env s:Ev (λn=>sJ n env s) (abZ s 0 env.carriers):=by
 unfold sJ;have h:∀(i:Int) (c:Carrier),idx env.carriers i=some c->Ev (λn=>ru n env s i n 0) (cond (c.elems.any (·==s)) (.rt (i,gX (·==s) 0 c.elems)) (.nx ())):=λi c a=>by
  have q:=NS c.elems (λn k j (_:Unit)=>ru n env s i k j) (λ_ j x _=>some (cond (x==s) (.rt (i,j)) (.nx ()))) (λj x _=>cond (x==s) (.rt (i,j)) (.nx ())) (λ_=>()) (λ_ _ _=>True)
   (λn k j _=>by show(idx env.carriers i).bind _=_;rw[a,qAa];congr 1;rw[qAa];congr 1;funext x;cases x==s<;>rfl)
   (λj x u _ f _=>⟨Ev.ret _,λ_ _=>trivial⟩) (s0:=()) trivial
  have e:∀(l:List Str) (j:Int),jZ (τ:=Unit) (λj x _=>cond (x==s) (.rt (i,j)) (.nx ())) (λ_=>()) j l ()=cond (l.any (·==s)) (.rt (i,gX (·==s) j l)) (.nx ()):=by
   intro l
   induction l with|nil=>intro j;rfl|cons x l b=>
    intro j;simp only[jZ,qCE,gX];cases x==s with|true=>rfl|false=>exact b (j+1)
  grind
 have g:=NS env.carriers (λn k i (_:Unit)=>MF n env s k i) (λn i _ _=>ru n env s i n 0) (λi c _=>cond (c.elems.any (·==s)) (.rt (i,gX (·==s) 0 c.elems)) (.nx ())) (λ_=>()) (λi u _=>∃p,env.carriers=p++u/\i=(p.length:Int))
  (λn k i _=>by
   show cond _ _ _=_;congr 1;cases a:idx env.carriers i with
   |none=>
    have:ru n env s i n 0=none:=by
     cases n with
     |zero=>rfl|succ m=>show(idx env.carriers i).bind _=none;rw[a];rfl
    simp_all
   |some x=>rfl)
  (λi x u _ f o=>by obtain⟨p,d,rfl⟩:=o;exact⟨h _ x (by rw[d];exact gV p x u),λ_ _=>⟨p++[x],by rw[d];simp,by simp⟩⟩) (s0:=()) ⟨[],rfl,rfl⟩
 refine Ev.bind g ?_;have e:∀(l:List Carrier) (i:Int),(match jZ (τ:=Unit) (λi (c:Carrier) _=>cond (c.elems.any (·==s)) (.rt (i,gX (·==s) 0 c.elems)) (.nx ())) (λ_=>()) i l ()with| .nx _=>((-1, -1):Int×Int)| .rt r=>r)=abZ s i l:=by
  intro l
  induction l with|nil=>intro i;rfl|cons c l b=>
   intro i;simp only[jZ,abZ];cases c.elems.any (·==s)with|true=>rfl|false=>exact b (i+1)
 rw[<-e env.carriers 0];generalize jZ (τ:=Unit) (λi (c:Carrier) _=>cond (c.elems.any (·==s)) (.rt (i,gX (·==s) 0 c.elems)) (.nx ())) (λ_=>()) 0 env.carriers ()=R;cases R;·exact Ev.ret _
 exact Ev.ret _
theorem as5 env s:Ev (λn=>D5 n env s) (gX (λd=>d.name==s) 0 env.names):=by exact tC env.names (λn k i=>Uf n env s k i) (λ_ x=>some (x.name==s)) (λc=>c.name==s) (λn k i=>rfl) (λx _=>Ev.ret _)
theorem U7 env s:Ev (λn=>(D5 n env s).bind λx1=>cond (decide (0<=x1)) ((idx env.names x1).bind λ(i:Decl)=>some (i.ty,true)) ((mH n env s).bind λ(j:Int)=>(cond (decide (0<=j)) (some ((Ty.mk 5 ([]:Str) ([(Ty.mk 3 s ([]))])),true)) ((sJ n env s).bind λ(g:Int×Int)=>(cond (decide (0<=g.1)) ((idx env.carriers g.1).bind λ(k:Carrier)=>some ((Ty.mk 3 k.name ([])),true)) (some ((Ty.mk 0 ([]:Str) ([])),false))))))) (avQ env s):=by
 refine Ev.bind (as5 env s) ?_;unfold avQ look aoH;rw[Pk,Pk,R3 (λd:Decl=>d.name) (λd=>d.ty),R3 (λc:Carrier=>c.name) (λc=>aj (pq c.name)),awp];rcases Fv (λd:Decl=>d.name==s) env.names []with⟨x,a,h,b,f⟩|⟨a,h⟩
 ·simp only[qAC,qCf,qAs]at b f;rw[a,decide_eq_true b,f];exact Ev.ret _
 simp only[qAC,qCf]at h;rw[a,h];simp only[show decide ((0:Int)<= -1)=false from rfl,cond_false,qBW];refine Ev.bind (JL env s) ?_;rcases Fv (λc:Carrier=>c.name==s) env.carriers []with⟨x,a,h,b,f⟩|⟨a,h⟩
 ·simp only[qAC,qCf,qAs]at b f;rw[a,decide_eq_true b];have e:x.name=s:=by simpa using h
  subst e;exact Ev.ret _
 simp only[qAC,qCf]at h;rw[a,h];simp only[show decide ((0:Int)<= -1)=false from rfl,cond_false,qBW];refine Ev.bind (ajj env s) ?_;rw[alI];rcases Fv (λc:Carrier=>c.elems.any (·==s)) env.carriers []with⟨x,a,h,b,f⟩|⟨a,h⟩
 ·simp only[qAC,qCf,qAs]at b f;rw[a,decide_eq_true b,f];exact Ev.ret _
 simp only[qAC,qCf]at h;rw[a,h];exact Ev.ret _
end
end Abs
end Go.Proofs.YtneeginmfjageaaGreat

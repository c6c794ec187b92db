/-
  The contract of eval.sorted as an entry. Conditions: none.
-/
import Derived.KernelRfl
import Derived.Shelf.SlGeneric
import Derived.Shelf.Spec.SlicesGrow
import Derived.Ground.Names8Prog
import Derived.Test.YtneeginmfjageaaGreatProg
import Derived.Test.YtneeginmfjageaaGreatCSrtox25d622
set_option linter.unusedSimpArgs false
set_option linter.unusedVariables false
namespace Go.Proofs.YtneeginmfjageaaGreat
namespace Abs
section
open Go Go.Proofs
theorem aDk:j4 Tryz.prog 61=true:=by kernel_rfl
theorem ahy n p0 r (h:jw n p0=some r):cZ Tryz.prog 61 [.slice (List.map aN p0) .shared] [] (.slice (List.map aN r) .shared) []:=by
 unfold jw app at h;split at h
 ·rename_i hb;simp only[qAb,qAt,Option.some.injEq] at h;subst h;exact abx [] p0 .shared (by simpa using hb.1)
 ·cases h
theorem y7 n:EkO (ala n):=MH aDk (by kernel_rfl) rfl fun x y h y' hy=>by
 cases hy;exact ahy n x y h
end
section
open Go Go.Proofs
set_option maxRecDepth 100000
theorem LW n:EkO (L6 n):=mk n [(6,.jn [.r 26 .B] false),(58,.lp [.r 31 .I] 0 [])] (e:=L6 (n)) (inn:=some) (.c (Dl n) (.c (QJ n) (.c (afb n) .n))) @Tryz.func31
theorem aqF n:EkO (acM n):=mk n [(12,.jn [.r 4 .B] false),(51,.jn [.r 15 .B] false),(831,.jn [.r 31 .B] false),(1647,.jn [.r 15 .B] false)] (e:=acM (n)) (inn:=some) .n @Tryz.func205
theorem aow n:EkO (Zp n):=mk n [] (e:=Zp (n)) (inn:=some) (.c (GA n) (.c (qW n) .n)) @Tryz.func206
theorem ak9 n:EkO (Xk n):=mk n [(3,.jn [.r 2 .B] false)] (e:=Xk (n)) (inn:=some) .n @Tryz.func207
theorem agG n:EkO (Qp n):=mk n [(3,.jn [.r 2 .B] false)] (e:=Qp (n)) (inn:=some) .n @Tryz.func208
theorem alp n:EkO (WZ n):=mk n [(7,.jn [.r 4 .B] true),(15,.jn [.r 4 .B] false),(28,.jn [.r 14 .B] false),(63,.jn [.r 2 .B] false),(227,.jn [.r 14 .B] false),(250,.jn [.r 2 .B] false)] (e:=WZ (n)) (inn:=some) (.c (aqF n) (.c (aow n) (.c (ak9 n) (.c (qW n) (.c (sG n) (.c (agG n) .n)))))) @Tryz.func138
theorem fu:∀n,EkO (uf n)∧EkO (qK n)∧EkO (zV n)∧EkO (xM n)
 | 0=>⟨iR (fn:=Tryz.f209) (by kernel_rfl) fun _=>rfl,iR (fn:=Tryz.f139) (by kernel_rfl) fun _=>rfl,iR (fn:=Tryz.f67) (by kernel_rfl) fun _=>rfl,iR (fn:=Tryz.f140) (by kernel_rfl) fun _=>rfl⟩
 | n+1=>⟨mk n [(26,.lp [.r 8 .I,.o 1 (.bx [(0,.lf (.n .i64))])] 0 [.o 1 (.bx [(0,.lf (.n .i64))])])] (e:=uf (n+1)) (inn:=some) (.c (fu n).2.2.2 .n) @Tryz.func209,
  mk n [] (e:=qK (n+1)) (inn:=some) (.c (fu n).1 .n) @Tryz.func139,
  mk n [(6,.jn [.r 15 .B,.o 0 (.bx [(0,.lf (.n .i64))])] false)] (e:=zV (n+1)) (inn:=some) (.c (GR n) (.c (alp n) (.c (fu n).2.1 .n))) @Tryz.func67,
  mk n [] (e:=xM (n+1)) (inn:=some) (.c (fu n).2.2.1 .n) @Tryz.func140⟩
theorem Xz n:EkO (zV n):=(fu n).2.2.1
theorem Ov n:EkO (ZU n):=mk n [] (e:=ZU (n)) (inn:=some) (.c (Xz n) .n) @Tryz.func32
theorem jB n:EkO (SA n):=mk n [] (e:=SA (n)) (inn:=some) .n @Tryz.func149
theorem aiZ n:EkO (Te n):=mk n [(58,.lp [.r 15 .I,.o 1 (.mp .ty)] 0 [.o 1 (.mp .ty)]),(122,.lp [.r 42 .I,.o 1 (.mp .ty),.o 0 .dead] 4 [.o 1 (.mp .ty),.o 0 .dead]),(59806,.lp [.r 30 .I,.o 1 (.mp .ty),.o 2 .dead] 2 [.o 1 (.mp .ty),.o 2 .dead])] (e:=Te (n)) (inn:=some) (.c (jB n) .n) @Tryz.func141
theorem Cw n:EkO (Uc n):=mk n [] (e:=Uc (n)) (inn:=some) .n @Tryz.func211
theorem akR n:EkO (Xq n):=mk n [(7,.fz [1,0])] (e:=Xq (n)) (inn:=some) .n @Tryz.func210
theorem EA n:EkO (NT n):=mk n [] (e:=NT (n)) (inn:=some) .n @Tryz.func212
theorem aoD n:EkO (Yg n):=mk n [(7,.fz [0])] (e:=Yg (n)) (inn:=some) .n @Tryz.func215
theorem XT n:EkO (Ia n):=mk n [(7,.fz [0])] (e:=Ia (n)) (inn:=some) .n @Tryz.func221
theorem ais n:EkO (UG n):=mk n [(7,.fz [0])] (e:=UG (n)) (inn:=some) .n @Tryz.func223
theorem abo n:EkO (LZ n):=mk n [(7,.fz [0])] (e:=LZ (n)) (inn:=some) .n @Tryz.func225
theorem alb n:EkO (Xo n):=mk n [(7,.fz [0])] (e:=Xo (n)) (inn:=some) .n @Tryz.func226
theorem agi n:EkO (Rm n):=mk n [(7,.fz [0])] (e:=Rm (n)) (inn:=some) .n @Tryz.func226
theorem alh n:EkO (WK n):=mk n [(7,.fz [0])] (e:=WK (n)) (inn:=some) .n @Tryz.func230
theorem agJ n:EkO (QO n):=mk n [(7,.fz [0])] (e:=QO (n)) (inn:=some) .n @Tryz.func230
theorem ahX n:EkO (Tf n):=mk n [(7,.fz [0])] (e:=Tf (n)) (inn:=some) .n @Tryz.func215
theorem SG n:EkO (E9 n):=mk n [(7,.fz [0])] (e:=E9 (n)) (inn:=some) .n @Tryz.func221
theorem Ub n:EkO (Fq n):=mk n [(7,.fz [0])] (e:=Fq (n)) (inn:=some) .n @Tryz.func221
theorem aee n:EkO (OO n):=mk n [(7,.fz [0])] (e:=OO (n)) (inn:=some) .n @Tryz.func223
theorem adk n:EkO (Oo n):=mk n [(7,.fz [0])] (e:=Oo (n)) (inn:=some) .n @Tryz.func223
theorem Uj n:EkO (FN n):=mk n [(7,.fz [0])] (e:=FN (n)) (inn:=some) .n @Tryz.func221
theorem Ud n:EkO (Fh n):=mk n [(7,.fz [0])] (e:=Fh (n)) (inn:=some) .n @Tryz.func221
theorem Un n:EkO (FH n):=mk n [(7,.fz [0])] (e:=FH (n)) (inn:=some) .n @Tryz.func221
theorem Ti n:EkO (Fz n):=mk n [(7,.fz [0])] (e:=Fz (n)) (inn:=some) .n @Tryz.func221
theorem Ui n:EkO (FE n):=mk n [(7,.fz [0])] (e:=FE (n)) (inn:=some) .n @Tryz.func221
theorem alF n:EkO (WC n):=mk n [] (e:=WC (n)) (inn:=some) (.c (Cw n) (.c (akR n) (.c (EA n) (.c (aoD n) (.c (XT n) (.c (ais n) (.c (abo n) (.c (alb n) (.c (agi n) (.c (alh n) (.c (jB n) (.c (agJ n) (.c (ahX n) (.c (SG n) (.c (Ub n) (.c (aee n) (.c (adk n) (.c (Uj n) (.c (Ud n) (.c (Un n) (.c (Ti n) (.c (Ui n) .n)))))))))))))))))))))) @Tryz.func142
theorem XQ n:EkO (Ie n):=mk n [(58,.lp [.r 15 .I,.o 2 (.mp .b),.o 0 .dead] 0 [.o 2 (.mp .b),.o 0 .dead])] (e:=Ie (n)) (inn:=fun y=>bif List.isEmpty y.1 then some (y.2.1,y.2.2) else none) (.c (aiZ n) (.c (alF n) .n)) @Tryz.func68 (by kernel_rfl) (by intro z y h;first | (cases h;rfl) | (obtain⟨h1,h2⟩:=(aY h).resolve_right fun h=>(by cases h.2);cases h2;exact Prod.ext (qCs.1 h1).symm rfl) | (obtain⟨h1,h2⟩:=(aY h).resolve_right fun h=>(by cases h.2);cases h2;obtain⟨z1,z2⟩:=z;cases z2;rfl;cases h1) | (simp only[cond] at h;split at h<;>cases h;simp_all)) fun _=>by kernel_rfl
theorem aeF n:EkO (Qq n):=mk n [(3,.jn [.r 2 .B] false)] (e:=Qq (n)) (inn:=some) .n @Tryz.func144
theorem dX n:EkO (KD n):=mk n [] (e:=KD (n)) (inn:=some) .n @Tryz.func145
theorem Uo n:EkO (EX n):=mk n [(12,.lp [.r 0 .Fd] 0 [])] (e:=EX (n)) (inn:=some) .n @Tryz.func146
theorem OY n:EkO (Bc n):=mk n [(3,.jn [.r 3 .B] false)] (e:=Bc (n)) (inn:=some) .n @Tryz.func244
theorem IB n:EkO (xH n):=mk n [(26,.lp [.r 8 .I] 0 [])] (e:=xH (n)) (inn:=some) (.c (OY n) .n) @Tryz.func192
theorem FT n:EkO (tQ n):=mk n [] (e:=tQ (n)) (inn:=some) (.c (IB n) .n) @Tryz.func114
theorem RI n:EkO (DL n):=mk n [] (e:=DL (n)) (inn:=some) (.c (Du n) (.c (FT n) .n)) @Tryz.func147
theorem ac9 n:EkO (Ou n):=mk n [] (e:=Ou (n)) (inn:=some) (.c (sG n) .n) @Tryz.func148
theorem XY n:EkO (Ht n):=mk n [] (e:=Ht (n)) (inn:=some) .n @Tryz.func300
theorem abB n:EkO (L9 n):=mk n [] (e:=L9 (n)) (inn:=some) .n @Tryz.func294
theorem Mx n:EkO (Am n):=mk n [(26,.lp [.r 8 .I] 0 [])] (e:=Am (n)) (inn:=some) (.c (abB n) .n) @Tryz.func320
theorem Im n:EkO (wO n):=mk n [] (e:=wO (n)) (inn:=some) (.c (Mx n) .n) @Tryz.func270
theorem aeH n:EkO (QM n):=mk n [] (e:=QM (n)) (inn:=some) (.c (Im n) .n) @Tryz.func293
theorem Qe n:EkO (P6 n):=mk n [] (e:=P6 (n)) (inn:=some) (.c (Cw n) .n) @Tryz.func227
theorem abR n:EkO (Ms n):=mk n [] (e:=Ms (n)) (inn:=some) (.c (Qe n) .n) @Tryz.func301
theorem mY:∀n,EkO (tZ n)∧EkO (IE n)
 | 0=>⟨iR (fn:=Tryz.f297) (by kernel_rfl) fun _=>rfl,iR (fn:=Tryz.f220) (by kernel_rfl) fun _=>rfl⟩
 | n+1=>⟨mk n [(58,.lp [.r 17 .I] 0 [])] (e:=tZ (n+1)) (inn:=some) (.c (mY n).2 .n) @Tryz.func297,
  mk n [(3,.jn [.r 4 .B] false)] (e:=IE (n+1)) (inn:=some) (.c (mY n).1 .n) @Tryz.func220⟩
theorem oH n:EkO (IE n):=(mY n).2
theorem adS n:EkO (Pf n):=mk n [] (e:=Pf (n)) (inn:=some) (.c (oH n) .n) @Tryz.func295
theorem ML n:EkO (Az n):=mk n [(26,.lp [.r 8 .I] 0 [])] (e:=Az (n)) (inn:=some) (.c (adS n) .n) @Tryz.func320
theorem Ii n:EkO (xE n):=mk n [] (e:=xE (n)) (inn:=some) (.c (ML n) .n) @Tryz.func270
theorem xO n:EkO (UF n):=mk n [(3,.jn [.r 2 .B] false)] (e:=UF (n)) (inn:=some) (.c (Ii n) .n) @Tryz.func214
theorem afB n:EkO (QU n):=mk n [] (e:=QU (n)) (inn:=some) (.c (Cw n) (.c (xO n) .n)) @Tryz.func213
theorem afs n:EkO (PU n):=mk n [(7,.jn [.r 3 .B,.o 0 (.bx [(0,.k (.n .i64 2)),(1,.k (.s ([]:Str))),(2,.k (.l .ty))])] false)] (e:=PU (n)) (inn:=some) (.c (dX n) (.c (Cw n) (.c (oH n) .n))) @Tryz.func229
theorem abz n:EkO (LY n):=mk n [(3,.jn [.r 4 .B,.o 0 (.bx [(0,.k (.n .i64 2)),(1,.k (.s ([]:Str))),(2,.k (.l .ty))])] false)] (e:=LY (n)) (inn:=some) (.c (Qe n) (.c (xO n) .n)) @Tryz.func302
theorem QA n:EkO (Qx n):=mk n [] (e:=Qx (n)) (inn:=some) .n @Tryz.func232
theorem afo n:EkO (Qg n):=mk n [(3,.jn [.r 3 .B,.o 0 (.bx [(0,.k (.n .i64 4)),(1,.k (.s ([]:Str))),(2,.lf (.l .ty))])] false)] (e:=Qg (n)) (inn:=some) (.c (QA n) .n) @Tryz.func231
theorem aeE n:EkO (Ra n):=mk n [] (e:=Ra (n)) (inn:=some) (.c (jB n) (.c (xO n) .n)) @Tryz.func233
theorem Rj n:EkO (Rf n):=mk n [] (e:=Rf (n)) (inn:=some) .n @Tryz.func228
theorem abI n:EkO (Mk n):=mk n [(3,.jn [.r 4 .B,.o 0 (.bx [(0,.lf (.n .i64)),(1,.lf .s),(2,.lf (.l .ty))])] false)] (e:=Mk (n)) (inn:=some) (.c (Rj n) (.c (xO n) .n)) @Tryz.func302
theorem qX n:EkO (Md n):=mk n [] (e:=Md (n)) (inn:=some) (.c (QA n) (.c (jB n) .n)) @Tryz.func217
theorem adQ n:EkO (OX n):=mk n [(30,.jn [.r 28 .B] false)] (e:=OX (n)) (inn:=some) (.c (dX n) (.c (qX n) .n)) @Tryz.func296
theorem jA n:EkO (Si n):=mk n [(14,.jn [.r 17 .B] false)] (e:=Si (n)) (inn:=some) (.c (dX n) .n) @Tryz.func219
theorem ae6 n:EkO (QD n):=mk n [] (e:=QD (n)) (inn:=some) (.c (xO n) .n) @Tryz.func234
theorem PL n:EkO (CY n):=mk n [] (e:=CY (n)) (inn:=some) (.c (jA n) (.c (ae6 n) .n)) @Tryz.func298
theorem afJ n:EkO (P8 n):=mk n [(7,.jn [.r 7 .B,.o 2 (.bx [(0,.k (.n .i64 5)),(1,.k (.s ([]:Str))),(2,.lf (.l .ty))])] false)] (e:=P8 (n)) (inn:=some) (.c (jA n) (.c (qX n) (.c (oH n) .n))) @Tryz.func235
theorem PN n:EkO (CX n):=mk n [] (e:=CX (n)) (inn:=some) (.c (jA n) (.c (afJ n) .n)) @Tryz.func298
theorem aeM n:EkO (QK n):=mk n [(15,.jn [.r 3 .B,.o 0 (.bx [(0,.lf (.n .i64)),(1,.lf .s),(2,.lf (.l .ty))])] false)] (e:=QK (n)) (inn:=some) (.c (dX n) (.c (jA n) (.c (oH n) .n))) @Tryz.func218
theorem agC n:EkO (QW n):=mk n [(7,.jn [.r 7 .B,.o 2 (.bx [(0,.lf (.n .i64)),(1,.lf .s),(2,.lf (.l .ty))])] false)] (e:=QW (n)) (inn:=some) (.c (dX n) (.c (oH n) .n)) @Tryz.func222
theorem PS n:EkO (CJ n):=mk n [] (e:=CJ (n)) (inn:=some) (.c (jA n) (.c (agC n) .n)) @Tryz.func298
theorem afj n:EkO (Rk n):=mk n [] (e:=Rk (n)) (inn:=some) (.c (qX n) (.c (jB n) .n)) @Tryz.func216
theorem adM n:EkO (Pj n):=mk n [(30,.jn [.r 28 .B] false)] (e:=Pj (n)) (inn:=some) (.c (dX n) (.c (afj n) .n)) @Tryz.func296
theorem acW n:EkO (Ow n):=mk n [] (e:=Ow (n)) (inn:=some) (.c (jB n) .n) @Tryz.func236
theorem Ym n:EkO (Ku n):=mk n [] (e:=Ku (n)) (inn:=some) (.c (dX n) (.c (acW n) .n)) @Tryz.func299
theorem ac7 n:EkO (Oq n):=mk n [] (e:=Oq (n)) (inn:=some) (.c (EA n) .n) @Tryz.func237
theorem aas n:EkO (Li n):=mk n [] (e:=Li (n)) (inn:=some) (.c (dX n) (.c (ac7 n) .n)) @Tryz.func299
theorem afU n:EkO (QE n):=mk n [] (e:=QE (n)) (inn:=some) (.c (EA n) .n) @Tryz.func224
theorem aar n:EkO (Kh n):=mk n [] (e:=Kh (n)) (inn:=some) (.c (dX n) (.c (afU n) .n)) @Tryz.func299
theorem adz n:EkO (O7 n):=mk n [] (e:=O7 (n)) (inn:=some) (.c (jB n) .n) @Tryz.func238
theorem PK n:EkO (CP n):=mk n [] (e:=CP (n)) (inn:=some) (.c (jA n) (.c (adz n) .n)) @Tryz.func298
theorem aec n:EkO (Og n):=mk n [] (e:=Og (n)) (inn:=some) (.c (jB n) .n) @Tryz.func239
theorem PG n:EkO (CQ n):=mk n [] (e:=CQ (n)) (inn:=some) (.c (jA n) (.c (aec n) .n)) @Tryz.func298
theorem ac1 n:EkO (Ob n):=mk n [] (e:=Ob (n)) (inn:=some) (.c (qX n) .n) @Tryz.func240
theorem PD n:EkO (CF n):=mk n [] (e:=CF (n)) (inn:=some) (.c (jA n) (.c (ac1 n) .n)) @Tryz.func298
theorem adi n:EkO (Oi n):=mk n [(7,.jn [.r 7 .B,.o 2 (.bx [(0,.k (.n .i64 5)),(1,.k (.s ([]:Str))),(2,.lf (.l .ty))])] false)] (e:=Oi (n)) (inn:=some) (.c (dX n) (.c (jB n) (.c (oH n) .n))) @Tryz.func241
theorem Pz n:EkO (CK n):=mk n [] (e:=CK (n)) (inn:=some) (.c (jA n) (.c (adi n) .n)) @Tryz.func298
theorem ade n:EkO (O5 n):=mk n [] (e:=O5 (n)) (inn:=some) (.c (oH n) .n) @Tryz.func242
theorem Pv n:EkO (Db n):=mk n [] (e:=Db (n)) (inn:=some) (.c (jA n) (.c (ade n) .n)) @Tryz.func298
theorem abK n:EkO (Ma n):=mk n [] (e:=Ma (n)) (inn:=some) (.c (Rj n) .n) @Tryz.func301
theorem adX n:EkO (N8 n):=mk n [(7,.jn [.r 3 .B,.o 0 (.bx [(0,.k (.n .i64 5)),(1,.k (.s ([]:Str))),(2,.lf (.l .ty))])] false)] (e:=N8 (n)) (inn:=some) (.c (dX n) (.c (qX n) .n)) @Tryz.func243
theorem rC:∀n,EkO (zU n)∧EkO (vT n)
 | 0=>⟨iR (fn:=Tryz.f69) (by kernel_rfl) fun _=>rfl,iR (fn:=Tryz.f143) (by kernel_rfl) fun _=>rfl⟩
 | n+1=>⟨mk n [(31,.jn [.r 18 (.ptr 8 0),.r 19 .B,.w (.box [.I,.S,.Lty])] false),(58,.lp [.r 2 .Fd,.w (.own .ty),.r 8 (.own 6),.r 23 .I,.o 0 (.bx [(59,.psl 7 1)]),.o 3 (.dead),.w (.arr .i)] 0 [.r 2 .Fd,.w (.own .ty),.r 8 (.own 6),.o 0 (.bx [(59,.psl 7 1)]),.o 3 (.dead),.w (.arr .i)]),(467,.jn [.r 2 .Fd,.w (.own .ty),.r 8 (.own 8),.o 0 (.bx [(59,.psl 9 1)]),.w (.arr .i),.o 6 .dead,.o 7 .dead] true),(981,.jn [.r 16 (.ptr 9 0),.r 17 .B,.w (.box [.I,.S,.Lty])] false),(29903,.jn [.r 48 .B] false),(478459,.fa [13])] (e:=zU (n+1)) (inn:=some) (.c (rC n).2 (.c (aeF n) (.c (dX n) (.c (Uo n) (.c (RI n) (.c (jB n) (.c (ac9 n) (.c (XY n) (.c (aeH n) (.c (abR n) (.c (afB n) (.c (afs n) (.c (abz n) (.c (afo n) (.c (aeE n) (.c (abI n) (.c (adQ n) (.c (PL n) (.c (PN n) (.c (aeM n) (.c (PS n) (.c (adM n) (.c (Ym n) (.c (aas n) (.c (aar n) (.c (PK n) (.c (PG n) (.c (PD n) (.c (Pz n) (.c (Pv n) (.c (abK n) (.c (adX n) .n)))))))))))))))))))))))))))))))) @Tryz.func69,
  mk n [(15,.jn [.o 0 (.bx [(59,.psl 8 1)]),.o 8 (.arr .i)] false),(122,.ca 8 0 59)] (e:=vT (n+1)) (inn:=some) (.c (rC n).1 .n) @Tryz.func143⟩
theorem X3 n:EkO (zU n):=(rC n).1
theorem Mv:∀n,EkO (L8 n)
 | 0=>iR (fn:=Tryz.f71) (by kernel_rfl) fun _=>rfl
 | n+1=>mk n [(58,.lp [.r 14 .I,.o 2 (.bx [(2,.own 3)]),.w (.own .ty),.o 0 .dead] 0 [.o 2 (.bx [(2,.own 3)]),.w (.own .ty),.o 0 .dead])] (e:=L8 (n+1)) (inn:=some) (.c (Mv n) .n) @Tryz.func71
theorem QS n:EkO (QZ n):=mk n [(6,.jn [.r 15 .B] false),(500,.fz [7])] (e:=QZ (n)) (inn:=some) (.c (Dl n) (.c (Ov n) (.c (XQ n) (.c (X3 n) (.c (Yo n) (.c (Mv n) .n)))))) @Tryz.func33
theorem WR n:EkO (Xl n):=mk n [(58,.lp [.r 17 .I,.o 2 (.bx [(3,.mapr 1)]),.o 1 (.mp .val)] 0 [.o 2 (.bx [(3,.mapr 1)]),.o 1 (.mp .val)])] (e:=Xl (n)) (inn:=fun y=>some (y.2.1,y.2.2.1,y.2.2.2.1,y.2.2.2.2,y.1)) .n @Tryz.func34 (by kernel_rfl) (by intro z y h;first | (cases h;rfl) | (obtain⟨h1,h2⟩:=(aY h).resolve_right fun h=>(by cases h.2);cases h2;exact Prod.ext (qCs.1 h1).symm rfl) | (obtain⟨h1,h2⟩:=(aY h).resolve_right fun h=>(by cases h.2);cases h2;obtain⟨z1,z2⟩:=z;cases z2;rfl;cases h1) | (simp only[cond] at h;split at h<;>cases h;simp_all)) fun _=>by kernel_rfl
theorem Gj n:EkO (aaG n):=mk n [] (e:=aaG (n)) (inn:=some) .n @Tryz.func150
theorem Cx n:EkO (Tk n):=mk n [(6,.jn [.r 8 .B] false)] (e:=Tk (n)) (inn:=some) .n @Tryz.func151
theorem Kc n:EkO (ach n):=mk n [] (e:=ach (n)) (inn:=some) .n @Tryz.func250
theorem RV n:EkO (Dy n):=mk n [] (e:=Dy (n)) (inn:=some) (.c (Kc n) .n) @Tryz.func249
theorem IY n:EkO (Sy n):=mk n [(3,.jn [.r 2 .B] false)] (e:=Sy (n)) (inn:=some) .n @Tryz.func251
theorem FU n:EkO (tO n):=mk n [(31,.jn [.r 6 .I,.r 7 .B] false),(60,.lp [.r 9 .I,.r 10 .I] 0 [.r 9 .I])] (e:=tO (n)) (inn:=some) (.c (ow n) .n) @Tryz.func304
end
end Abs
end Go.Proofs.YtneeginmfjageaaGreat
namespace Go.Proofs
open Go.Shelf
def Tryz.DN:Go.Shelf.Ren:=⟨fun | 4=>334 | n=>n,fun | 22=>27 | 25=>40 | 3=>3 | 4=>4 | 9=>9 | 20=>20 | 0=>0 | n=>n,fun | n=>n⟩
set_option maxRecDepth 100000 in
theorem Tryz.arK:Go.Proofs.Lays8.n4 Tryz.prog Tryz.DN:={
 mixed:=by kernel_rfl
 f4:=⟨Tryz.f334.name,by decide,Tryz.func334.trans (congrArg some (by kernel_rfl))⟩
 t0:=Tryz.underlying0
 a0:=Tryz.isAgg0
 z0:=Tryz.sizeOf0
 v0:=Tryz.zeroValue0
 t3:=Tryz.underlying3
 a3:=Tryz.isAgg3
 z3:=Tryz.sizeOf3
 v3:=Tryz.zeroValue3
 t4:=Tryz.underlying4
 a4:=Tryz.isAgg4
 z4:=Tryz.sizeOf4
 v4:=Tryz.zeroValue4
 t9:=Tryz.underlying9
 a9:=Tryz.isAgg9
 z9:=Tryz.sizeOf9
 v9:=Tryz.zeroValue9
 t20:=Tryz.underlying20
 a20:=Tryz.isAgg20
 z20:=Tryz.sizeOf20
 v20:=Tryz.zeroValue20
 t22:=Tryz.underlying27
 a22:=Tryz.isAgg27
 z22:=Tryz.sizeOf27
 v22:=Tryz.zeroValue27}
end Go.Proofs
namespace Go.Proofs.YtneeginmfjageaaGreat
namespace Abs
section
open Go Go.Proofs Go.Lib
theorem aAS:j4 Tryz.prog 334=true:=by kernel_rfl
theorem axk:(Tryz.prog.info? 40).map (fun i=>(i.zero.map Value.cells,i.size,i.bytes))=some (some #[.int .i64 0,.int .i64 0,.string ⟨#[]⟩,.slice none 0 0],4,56):=by kernel_rfl
theorem aho(k:Nat)(hk:k*56≤140737488355328):cZ Tryz.prog 334 [.slice [] .nils,.int .i64 k] [] (.slice [] (.tip 0 4)) [.tip 0]:=by
 intro κ aj w vs hen hvl hr;have hκ:κ=[]:=qAw.1 hen.klen;subst hκ
 match vs,hvl with
 | [v,u],_=>
 have h0:=hr 0 (by simp);have h1:=hr 1 (by simp);simp only[List.getD,qAD,qBr,qAv] at h0 h1;cases h1 with
 | int hw=>
 cases h0 with
 | @slice _ _ a cap b off sz u' g1 g2 g3 g4 g5 g6 g7 g8=>
 obtain⟨rfl,rfl⟩:=g8;have hempty:∀{w':World} {κ':aL} {pv:bJ} {a:Option Addr} {cap:Nat},Qy w' κ' a cap 4 (.tip 0 4)→Rel w' κ' pv (.slice [] (.tip 0 4)) (.slice a 0 cap):=fun h=>
  .slice 0 0 4 (fun _ _=>undef) (fun i hi=>by simp at hi) (fun h=>absurd rfl h) (qBg _) (qBg _) (fun i j hi=>by simp at hi) (fun i j hi=>by simp at hi) (fun i j hi=>by simp at hi) h
 by_cases h0:k=0
 ·subst h0;have:=Any8.slices_Grow_room Tryz.arK none 0 0 0 w (qAd _) (qBg _) (qBg _) (qAd _);refine Calls.mono this ?_;rintro e w' ⟨rfl,rfl⟩;refine⟨_,[none],rfl,?_,hempty ⟨rfl,.inl ⟨rfl,rfl⟩⟩⟩;have hn:∀l b,at? [none] l≠some b:=fun l b h=>by
   cases l with
   | zero=>cases h
   | succ l=>cases h
  refine⟨rfl,by simp,fun l b h=>(by cases h),fun l h=>?_,fun l b h=>absurd h (hn l b),fun l b h=>absurd h (hn l b),fun l l' b h=>absurd h (hn l b),fun l b h=>absurd h (hn l b),fun b _ _=>rfl,Evo.refl _ _,fun b o h _=>?_,rfl,rfl,rfl⟩
  ·cases l with
   | zero=>rfl
   | succ l=>rfl
  ·rcases h with h | ⟨l,h,_⟩
   ·exact .inl h
   ·exact absurd h (hn l b)
 ·obtain⟨i0,hi⟩:∃i0,Tryz.prog.info? 40=some i0:=by
   have:=axk;cases h:Tryz.prog.info? 40 with
   | none=>rw[h] at this;cases this
   | some i=>exact⟨i,rfl⟩
  have hi2:=axk;rw[hi] at hi2;simp only[qAy,Option.some.injEq,Prod.mk.injEq] at hi2;obtain⟨hz,hs,hb⟩:=hi2;obtain⟨z,hz1,hz2⟩:=qBx.1 hz;have:=Any8.slices_Grow_grow Tryz.arK i0 z hi hz1 (by omega) none 0 0 k [] w (qAd _) (by omega) (by rw[hb];omega) (by omega) (by simp) (fun _=>rfl) (fun a h=>by cases h);refine Calls.mono this ?_;rintro e w' ⟨rfl,rfl⟩;generalize hG:grownCap w (0+k) 0 (Tryz.DN.t 25)=G;have hGk:k≤G:=by have:=grownCap_ge w (0+k) 0 (Tryz.DN.t 25);omega
  generalize hX:(([]:List Value).toArray++Builtin.zeroCells z.cells (0+k - 0)++Builtin.zeroCells z.cells (G - (0+k)))=X;have hXs:X.size=G*4:=by
   rw[←hX];simp only[qCm,size_zeroCells,hz2];simp;omega
  generalize hw2:w.drew.alloc (.cells X (Tryz.DN.t 25))=w2;have hbel:Go.RowKit.Below w.heap.size w w2:=by
   rw[←hw2];exact((qCY _ w).drew).alloc (qAd _) _
  have hnew:w2.heap[w.heap.size]? =some (.cells X (Tryz.DN.t 25)):=by rw[←hw2];exact World.alloc_heap_new w.drew _
  have hsz:w2.heap.size=w.heap.size+1:=by rw[←hw2];exact World.size_alloc _ _
  have a0:∀l b,at? [some w.heap.size] l=some b→l=0∧b=w.heap.size:=fun l b h=>by
   cases l with
   | zero=>cases h;exact⟨rfl,rfl⟩
   | succ l=>cases h
  refine⟨_,[some w.heap.size],rfl,?_,hempty ⟨rfl,.inr ⟨_,X,_,rfl,rfl,hnew,by omega⟩⟩⟩;refine⟨rfl,by simp,fun l b h=>(by cases h),fun l h=>?_,fun l b h _=>?_,fun l b h _=>.inl ?_,fun l l' b h h' _ _=>?_,fun l b h=>?_,fun b hb' _=>hbel.block b hb',?_,fun b o h hlt=>?_,hbel.os,hbel.tape,hbel.output⟩
  ·cases l with
   | zero=>cases h
   | succ l=>rfl
  ·obtain⟨rfl,rfl⟩:=a0 l b h;exact⟨X,_,hnew,by show 0≤X.size;omega⟩
  ·obtain⟨_,rfl⟩:=a0 l b h;exact qAd _
  ·obtain⟨rfl,_⟩:=a0 l b h;obtain⟨rfl,_⟩:=a0 l' b h';rfl
  ·obtain⟨_,rfl⟩:=a0 l b h;omega
  ·exact⟨hbel.size,fun b off u _ hc=>by
    have hlt:=lt_of_cell hc;simp only[World.cell?,hbel.block b hlt] at hc⊢;exact hc,fun b c e z hx=>⟨c,by rw[hbel.block b (qBi.1 hx).1];exact hx,rfl⟩⟩
  ·rcases h with h | ⟨l,h,_⟩
   ·exact .inl h
   ·obtain⟨_,rfl⟩:=a0 l b h;omega
theorem XJ n:EkO (X6 n):=MH aAS (by kernel_rfl) rfl fun(x:Int) y h y' hy=>by
 cases hy;have h:(bif decide ((0:Int)≤(x:Int))&&decide ((x:Int)*56≤140737488355328) then some ([]:List Val) else none)=some y:=h;rcases aY h with⟨h1,h2⟩ | ⟨_,h2⟩
 ·simp only[qAa,decide_eq_true_eq] at h1;cases h2;obtain⟨k,rfl⟩:∃k:Nat,x=(k:Int):=⟨x.toNat,by omega⟩;exact aho k (by omega)
 ·cases h2
end
section
open Go Go.Proofs
set_option maxRecDepth 100000
theorem ni n:EkO (QH n):=mk n [] (e:=QH (n)) (inn:=some) (.c (FU n) .n) @Tryz.func253
theorem Dc n:EkO (C9 n):=mk n [] (e:=C9 (n)) (inn:=some) (.c (ni n) .n) @Tryz.func252
theorem MX n:EkO (Au n):=mk n [] (e:=Au (n)) (inn:=some) (.c (ni n) .n) @Tryz.func255
theorem als n:EkO (Xi n):=mk n [(58,.lp [.w (.own .val),.r 5 (.own 0),.r 10 .I] 0 [.w (.own .val),.r 5 (.own 0)]),(467,.jn [.w (.own .val),.r 5 (.own 1),.o 0 .dead] false)] (e:=Xi (n)) (inn:=some) (.c (MX n) .n) @Tryz.func156
theorem C8 n:EkO (CO n):=mk n [] (e:=CO (n)) (inn:=some) (.c (als n) .n) @Tryz.func254
theorem ag3 n:EkO (Qj n):=mk n [(58,.lp [.w (.own .val),.r 5 (.own 0),.r 10 .I] 0 [.w (.own .val),.r 5 (.own 0)]),(467,.jn [.w (.own .val),.r 5 (.own 1),.o 0 .dead] false)] (e:=Qj (n)) (inn:=some) (.c (Dc n) .n) @Tryz.func156
theorem afW n:EkO (P9 n):=mk n [(58,.lp [.w (.own .val),.r 5 (.own 0),.r 10 .I] 0 [.w (.own .val),.r 5 (.own 0)]),(467,.jn [.w (.own .val),.r 5 (.own 1),.o 0 .dead] false)] (e:=P9 (n)) (inn:=some) (.c (C8 n) .n) @Tryz.func156
theorem ah2 n:EkO (Tv n):=mk n [] (e:=Tv (n)) (inn:=some) (.c (ow n) .n) @Tryz.func258
theorem agv n:EkO (QI n):=mk n [(58,.lp [.w (.own .val),.r 5 (.own 1),.r 10 .I] 0 [.w (.own .val),.r 5 (.own 1)]),(467,.jn [.w (.own .val),.r 5 (.own 2),.o 1 .dead] false)] (e:=QI (n)) (inn:=some) (.c (ah2 n) .n) @Tryz.func156
theorem abO n:EkO (Mh n):=mk n [(14,.jn [.r 45 .B] false)] (e:=Mh (n)) (inn:=some) (.c (Cx n) .n) @Tryz.func259
theorem Uf n:EkO (FM n):=mk n [(58,.lp [.r 3 .I,.r 11 .I] 0 [.r 3 .I]),(250,.lp [.w (.own .val),.r 6 (.own 1),.r 27 .I,.o 0 .dead] 2 [.w (.own .val),.r 6 (.own 1),.o 0 .dead])] (e:=FM (n)) (inn:=some) (.c (XJ n) .n) @Tryz.func309
theorem zC n:EkO (WG n):=mk n [] (e:=WG (n)) (inn:=some) (.c (ni n) .n) @Tryz.func308
theorem agn n:EkO (Rh n):=mk n [(58,.lp [.w (.own .val),.r 5 (.own 1),.r 10 .I] 0 [.w (.own .val),.r 5 (.own 1)]),(467,.jn [.w (.own .val),.r 5 (.own 2),.o 1 .dead] false)] (e:=Rh (n)) (inn:=some) (.c (zC n) .n) @Tryz.func156
theorem alZ n:EkO (Xe n):=mk n [] (e:=Xe (n)) (inn:=some) (.c (zC n) .n) @Tryz.func310
theorem afh n:EkO (Qa n):=mk n [(58,.lp [.w (.own .val),.r 5 (.own 2),.r 10 .I] 0 [.w (.own .val),.r 5 (.own 2)]),(467,.jn [.w (.own .val),.r 5 (.own 3),.o 2 .dead] false)] (e:=Qa (n)) (inn:=some) (.c (alZ n) .n) @Tryz.func156
theorem alR n:EkO (Xm n):=mk n [] (e:=Xm (n)) (inn:=some) (.c (ni n) .n) @Tryz.func311
theorem afc n:EkO (Qk n):=mk n [(58,.lp [.w (.own .val),.r 5 (.own 1),.r 10 .I] 0 [.w (.own .val),.r 5 (.own 1)]),(467,.jn [.w (.own .val),.r 5 (.own 2),.o 1 .dead] false)] (e:=Qk (n)) (inn:=some) (.c (alR n) .n) @Tryz.func156
theorem Wp n:EkO (Ww n):=mk n [] (e:=Ww (n)) (inn:=some) (.c (ni n) .n) @Tryz.func307
theorem alD n:EkO (WB n):=mk n [] (e:=WB (n)) (inn:=some) (.c (Wp n) .n) @Tryz.func312
theorem ag8 n:EkO (Qw n):=mk n [(58,.lp [.w (.own .val),.r 5 (.own 2),.r 10 .I] 0 [.w (.own .val),.r 5 (.own 2)]),(467,.jn [.w (.own .val),.r 5 (.own 3),.o 2 .dead] false)] (e:=Qw (n)) (inn:=some) (.c (alD n) .n) @Tryz.func156
theorem alv n:EkO (Xr n):=mk n [] (e:=Xr (n)) (inn:=some) (.c (Wp n) .n) @Tryz.func313
theorem afp n:EkO (QN n):=mk n [(58,.lp [.w (.own .val),.r 5 (.own 2),.r 10 .I] 0 [.w (.own .val),.r 5 (.own 2)]),(467,.jn [.w (.own .val),.r 5 (.own 3),.o 2 .dead] false)] (e:=QN (n)) (inn:=some) (.c (alv n) .n) @Tryz.func156
theorem alH n:EkO (Xp n):=mk n [] (e:=Xp (n)) (inn:=some) (.c (zC n) .n) @Tryz.func314
theorem adN n:EkO (Pd n):=mk n [(58,.lp [.w (.own .val),.r 5 (.own 2),.r 10 .I] 0 [.w (.own .val),.r 5 (.own 2)]),(467,.jn [.w (.own .val),.r 5 (.own 3),.o 2 .dead] false)] (e:=Pd (n)) (inn:=some) (.c (alH n) .n) @Tryz.func156
theorem alq n:EkO (Xn n):=mk n [] (e:=Xn (n)) (inn:=some) (.c (zC n) .n) @Tryz.func315
theorem aek n:EkO (Oe n):=mk n [(58,.lp [.w (.own .val),.r 5 (.own 2),.r 10 .I] 0 [.w (.own .val),.r 5 (.own 2)]),(467,.jn [.w (.own .val),.r 5 (.own 3),.o 2 .dead] false)] (e:=Oe (n)) (inn:=some) (.c (alq n) .n) @Tryz.func156
theorem S9 n:EkO (Sv n):=mk n [(58,.lp [.w (.own .vals),.r 3 (.own 1),.r 11 .I,.o 0 .dead] 0 [.w (.own .vals),.r 3 (.own 1),.o 0 .dead]),(14950,.lp [.w (.own .vals),.r 3 (.own 4),.r 18 .I,.o 1 .dead] 2 [.w (.own .vals),.r 3 (.own 4),.o 1 .dead])] (e:=Sv (n)) (inn:=some) (.c (PI n) (.c (DU n) .n)) @Tryz.func316
theorem aly n:EkO (WS n):=mk n [] (e:=WS (n)) (inn:=some) (.c (zC n) .n) @Tryz.func317
theorem adH n:EkO (ND n):=mk n [(58,.lp [.w (.own .val),.r 5 (.own 2),.r 10 .I] 0 [.w (.own .val),.r 5 (.own 2)]),(467,.jn [.w (.own .val),.r 5 (.own 3),.o 2 .dead] false)] (e:=ND (n)) (inn:=some) (.c (aly n) .n) @Tryz.func156
theorem acB n:EkO (acH n):=mk n [(3,.jn [.r 6 .B] false)] (e:=acH (n)) (inn:=some) .n @Tryz.func337
theorem ahA n:EkO (Tj n):=mk n [(122,.lp [.r 7 .I,.r 15 .I] 0 []),(15667,.jn [.r 9 .I] true),(125343,.jn [.r 50 .B] false),(2005423,.jn [.r 30 .B] false)] (e:=Tj (n)) (inn:=some) (.c (acB n) .n) @Tryz.func336
theorem LB:∀n,EkO (WX n)
 | 0=>iR (fn:=Tryz.f36) (by kernel_rfl) fun _=>rfl
 | n+1=>mk n [(31,.fz [2]),(58,.lp [.r 13 .I,.o 0 (.bx [(3,.psl 2 4)]),.o 2 (.arr .val)] 0 [.o 0 (.bx [(3,.psl 2 4)]),.o 2 (.arr .val)])] (e:=WX (n+1)) (inn:=some) (.c (V6 n) (.c (XA n) (.c (LB n) .n))) @Tryz.func36
theorem Vi n:EkO (afO n):=mk n [] (e:=afO (n)) (inn:=some) (.c (y7 n) .n) @Tryz.func157
theorem Xb n:EkO (Wz n):=mk n [(30,.fz [1]),(58,.lp [.w (.arr .val),.r 3 (.psl 1 4),.r 11 .I,.o 0 .dead] 0 [.w (.arr .val),.r 3 (.psl 1 4),.o 0 .dead])] (e:=Wz (n)) (inn:=some) (.c (y7 n) .n) @Tryz.func305
theorem IJ n:EkO (SE n):=mk n [(30,.fz [1]),(58,.lp [.w (.arr .val),.r 3 (.psl 1 4),.r 11 .I,.o 0 .dead] 0 [.w (.arr .val),.r 3 (.psl 1 4),.o 0 .dead])] (e:=SE (n)) (inn:=some) (.c (y7 n) .n) @Tryz.func306
theorem Qs n:EkO (Qm n):=mk n [(26,.lp [.r 15 .I] 0 []),(31,.jn [.r 8 .B] false),(1689,.jn [.r 34 .B] false),(7870,.jn [.r 8 .B] false),(31486,.jn [.r 8 .B] false)] (e:=Qm (n)) (inn:=some) (.c (ni n) (.c (Xb n) (.c (IJ n) .n))) @Tryz.func257
theorem Da n:EkO (CZ n):=mk n [] (e:=CZ (n)) (inn:=some) (.c (Qs n) .n) @Tryz.func256
theorem aeO n:EkO (Q5 n):=mk n [(58,.lp [.w (.own .val),.r 5 (.own 0),.r 10 .I] 0 [.w (.own .val),.r 5 (.own 0)]),(467,.jn [.w (.own .val),.r 5 (.own 1),.o 0 .dead] false)] (e:=Q5 (n)) (inn:=some) (.c (Da n) .n) @Tryz.func156
theorem KO:∀n,EkO (Kv n)
 | 0=>iR (fn:=Tryz.f338) (by kernel_rfl) fun _=>rfl
 | n+1=>mk n [(7,.jn [.o 3 (.bx [(0,.psl 6 4)]),.o 4 (.dead),.w (.arr .val)] false),(10,.jn [.o 3 (.bx [(0,.psl 6 4)]),.o 4 (.dead),.w (.arr .val)] false),(62,.lp [.r 75 .I,.o 3 (.bx [(0,.psl 7 4)]),.w (.arr .val),.o 6 .dead] 4 [.o 3 (.bx [(0,.psl 7 4)]),.w (.arr .val),.o 6 .dead]),(210,.lp [.r 38 .I,.o 3 (.bx [(0,.psl 6 4)]),.o 4 (.dead),.w (.arr .val)] 0 [.o 3 (.bx [(0,.psl 6 4)]),.o 4 (.dead),.w (.arr .val)]),(499,.jn [.o 3 (.bx [(0,.psl 8 4)]),.w (.arr .val),.o 7 .dead] false),(7986,.jn [.r 86 .B] false),(215450,.lp [.w (.own .val),.r 11 (.own 8),.r 46 .I,.o 3 (.bx [(0,.psl 6 4)]),.o 7 .dead] 2 [.w (.own .val),.r 11 (.own 8),.o 3 (.bx [(0,.psl 6 4)]),.o 7 .dead])] (e:=Kv (n+1)) (inn:=some) (.c (Qs n) (.c (y7 n) (.c (S9 n) (.c (DU n) (.c (Kc n) (.c (KO n) (.c (IJ n) (.c (ni n) .n)))))))) @Tryz.func338
theorem ad3 n:EkO (Oy n):=mk n [(15,.jn [.r 7 (.ptr 3 0),.w (.box [.psl 4 4]),.w (.arr .val)] false),(511,.fz [6])] (e:=Oy (n)) (inn:=some) (.c (ahA n) (.c (acB n) (.c (KO n) .n))) @Tryz.func318
theorem ark n:EkO (acn n):=mk n [(63,.jn [.r 11 .Lval,.o 0 .dead,.o 1 .dead,.o 3 .dead,.o 4 .dead,.o 5 .dead,.o 6 .dead] true),(16214,.lp [.w (.own .val),.r 11 (.own 7),.r 12 .I,.o 0 .dead,.o 3 .dead,.o 4 .dead,.o 5 .dead,.o 6 .dead] 1 [.w (.own .val),.r 11 (.own 7),.o 0 .dead,.o 3 .dead,.o 4 .dead,.o 5 .dead,.o 6 .dead]),(4153334,.lp [.w (.own .val),.r 11 (.own 7),.r 86 .I,.o 0 .dead,.o 1 .dead,.o 3 .dead,.o 5 .dead,.o 6 .dead] 3 [.w (.own .val),.r 11 (.own 7),.o 0 .dead,.o 1 .dead,.o 3 .dead,.o 5 .dead,.o 6 .dead]),(33226746,.lp [.w (.own .val),.r 11 (.own 7),.r 118 .I,.o 0 .dead,.o 1 .dead,.o 3 .dead,.o 5 .dead,.o 6 .dead] 7 [.w (.own .val),.r 11 (.own 7),.o 0 .dead,.o 1 .dead,.o 3 .dead,.o 5 .dead,.o 6 .dead]),(1063253606,.lp [.w (.own .val),.r 11 (.own 9),.r 92 .I,.o 7 .dead] 5 [.w (.own .val),.r 11 (.own 9),.o 7 .dead]),(8506047078,.lp [.w (.own .val),.r 11 (.own 9),.r 124 .I,.o 7 .dead] 9 [.w (.own .val),.r 11 (.own 9),.o 7 .dead]),(68048376627,.jn [.w (.own .val),.r 11 (.own 10),.o 9 .dead] false),(68048388086,.lp [.w (.own .val),.r 11 (.own 7),.r 181 .I,.o 0 .dead,.o 1 .dead,.o 3 .dead,.o 4 .dead,.o 5 .dead,.o 6 .dead] 11 [.w (.own .val),.r 11 (.own 7),.o 0 .dead,.o 1 .dead,.o 3 .dead,.o 4 .dead,.o 5 .dead,.o 6 .dead]),(2177548419066,.lp [.w (.own .val),.r 11 (.own 7),.r 203 .I,.o 0 .dead,.o 1 .dead,.o 3 .dead,.o 4 .dead,.o 5 .dead,.o 6 .dead] 13 [.w (.own .val),.r 11 (.own 7),.o 0 .dead,.o 1 .dead,.o 3 .dead,.o 4 .dead,.o 5 .dead,.o 6 .dead])] (e:=acn (n)) (inn:=some) (.c (Cx n) (.c (Uf n) (.c (agn n) (.c (afh n) (.c (Kc n) (.c (Xb n) (.c (afc n) (.c (ow n) (.c (ag8 n) (.c (afp n) (.c (adN n) (.c (aek n) (.c (S9 n) (.c (IJ n) (.c (adH n) (.c (ad3 n) (.c (Vi n) .n))))))))))))))))) @Tryz.func260
theorem an4 n:EkO (Yq n):=mk n [(491,.jn [.r 105 .B] false)] (e:=Yq (n)) (inn:=some) (.c (Gj n) (.c (ow n) (.c (Kc n) (.c (agv n) (.c (abO n) (.c (Cx n) (.c (ark n) .n))))))) @Tryz.func158
theorem aM:∀n,EkO (sS n)∧EkO (sK n)∧EkO (sM n)∧EkO (Bl n)∧EkO (yI n)∧EkO (lX n)∧EkO (vD n)
 | 0=>⟨iR (fn:=Tryz.f155) (by kernel_rfl) fun _=>rfl,iR (fn:=Tryz.f155) (by kernel_rfl) fun _=>rfl,iR (fn:=Tryz.f155) (by kernel_rfl) fun _=>rfl,iR (fn:=Tryz.f248) (by kernel_rfl) fun _=>rfl,iR (fn:=Tryz.f154) (by kernel_rfl) fun _=>rfl,iR (fn:=Tryz.f73) (by kernel_rfl) fun _=>rfl,iR (fn:=Tryz.f153) (by kernel_rfl) fun _=>rfl⟩
 | n+1=>⟨mk n [(107,.fz [5]),(127,.fz [3,5,7]),(245,.fz [5])] (e:=sS (n+1)) (inn:=some) (.c (IY n) (.c (aM n).2.2.2.2.2.1 .n)) @Tryz.func155,
  mk n [(107,.fz [5]),(127,.fz [3,5,7]),(245,.fz [5])] (e:=sK (n+1)) (inn:=some) (.c (IY n) (.c (aM n).2.2.2.2.2.1 .n)) @Tryz.func155,
  mk n [(107,.fz [5]),(127,.fz [3,5,7]),(245,.fz [5])] (e:=sM (n+1)) (inn:=some) (.c (IY n) (.c (aM n).2.2.2.2.2.1 .n)) @Tryz.func155,
  mk n [(31,.ca 12 0 4),(122,.lp [.r 31 .I,.o 0 (.bx [(4,.psl 12 5)]),.o 4 (.bx [(0,.psl 13 4)]),.o 5 (.dead),.o 6 (.bx [(0,.lf .b)]),.o 7 (.bx [(0,.lf .b)]),.w (.arr .bnd),.w (.arr .val),.o 9 .dead,.o 10 .dead,.o 11 .dead] 0 [.o 0 (.bx [(4,.psl 12 5)]),.o 4 (.bx [(0,.psl 13 4)]),.o 5 (.dead),.o 6 (.bx [(0,.lf .b)]),.o 7 (.bx [(0,.lf .b)]),.w (.arr .bnd),.w (.arr .val),.o 9 .dead,.o 10 .dead,.o 11 .dead])] (e:=Bl (n+1)) (inn:=some) (.c (aM n).2.2.2.2.2.1 (.c (RV n) .n)) @Tryz.func248,
  mk n [(7,.jn [.r 7 (.ptr 7 0),.w (.box [.psl 8 4]),.w (.arr .val)] false),(126,.fz [10])] (e:=yI (n+1)) (inn:=some) (.c (aM n).2.2.2.1 (.c (Gj n) (.c (Vi n) .n))) @Tryz.func154,
  mk n [(26,.jn [.r 18 .B] false),(250,.lp [.r 123 .I,.o 0 (.bx [(4,.psl 6 5)]),.o 2 (.dead),.o 5 (.bx [(0,.lf (.n .i64)),(1,.lf (.n .i64)),(2,.lf .s),(3,.lf (.l .val)),(4,.lf (.n .i64)),(5,.lf (.n .i64)),(6,.lf .s),(7,.lf (.l .val))]),.w (.arr .bnd)] 3 [.o 0 (.bx [(4,.psl 6 5)]),.o 2 (.dead),.o 5 (.bx [(0,.lf (.n .i64)),(1,.lf (.n .i64)),(2,.lf .s),(3,.lf (.l .val)),(4,.lf (.n .i64)),(5,.lf (.n .i64)),(6,.lf .s),(7,.lf (.l .val))]),.w (.arr .bnd)]),(1962,.lp [.w (.own .val),.r 10 (.own 6),.r 106 .I,.o 0 (.bx [(4,.psl 7 5)]),.o 2 (.dead),.w (.arr .bnd),.o 3 .dead,.o 5 .dead] 1 [.w (.own .val),.r 10 (.own 6),.o 0 (.bx [(4,.psl 7 5)]),.o 2 (.dead),.w (.arr .bnd),.o 3 .dead,.o 5 .dead]),(2003,.jn [.o 0 (.bx [(4,.psl 7 5)]),.o 5 (.bx [(0,.lf (.n .i64)),(1,.lf (.n .i64)),(2,.lf .s),(3,.lf (.l .val)),(4,.lf (.n .i64)),(5,.lf (.n .i64)),(6,.lf .s),(7,.lf (.l .val))]),.w (.arr .bnd),.o 6 .dead] true),(6911,.jn [.r 39 .B] false),(27647,.jn [.r 46 .B] false),(110591,.jn [.r 54 .B] false)] (e:=lX (n+1)) (inn:=some) (.c (Gj n) (.c (Cx n) (.c (Vs n) (.c (aM n).2.2.2.2.2.2 (.c (aM n).2.2.2.2.1 (.c (aM n).2.2.2.2.2.1 (.c (aM n).2.2.1 (.c (Dc n) (.c (aM n).2.1 (.c (C8 n) (.c (aM n).1 (.c (Da n) (.c (ag3 n) (.c (afW n) (.c (aeO n) (.c (Vi n) (.c (an4 n) .n))))))))))))))))) @Tryz.func73,
  mk n [(28,.jn [.r 14 .B] false),(115,.jn [.r 23 .B] false),(230,.jn [.r 23 .B] false)] (e:=vD (n+1)) (inn:=some) (.c (aM n).2.2.2.2.2.1 (.c (Gj n) .n)) @Tryz.func153⟩
theorem aaA n:EkO (lX n):=(aM n).2.2.2.2.2.1
theorem ai5 n:EkO (Sg n):=mk n [] (e:=Sg (n)) (inn:=some) (.c (y7 n) (.c (LB n) .n)) @Tryz.func26
end
section
open Go Go.Proofs
theorem aD3:j4 Tryz.prog 35=true:=by kernel_rfl
section
variable (n:Nat)(tm:Tm)(cs:List Carrier)(ds:List Decl)(sz:List Int)(mp:List (Str×Val))(bs z:List Bound)(c:Nat)(v:Int)(r:Val)
def Xc:List TObj:=[.box [.lf (.l .car) cs,.lf (.l .dec) ds,.lf (.l .i) sz,.mapr 1,.psl 2 5 none],.mp .val mp,.arr .bnd bs]
def t35:List TV:=[.ptr 0 0,.lf (.t .tm) tm,.tup [],.tup [],.tup [],.tup [],.tup [],.tup [],.tup [],.tup [],.tup [],.tup [],.tup [],.tup [],.tup [],.tup []]
def tA:List TV:=[.ptr 0 0,.lf (.t .tm) tm,.ptr 3 0,.ptr 4 0,.ptr 5 0,.ptr 6 0,.tup [],.tup [],.tup [],.tup [],.tup [],.tup [],.tup [],.tup [],.tup [],.tup []]
def hA:List TObj:=[.box [.lf (.l .car) cs,.lf (.l .dec) ds,.lf (.l .i) sz,.mapr 1,.psl 2 5 none],.mp .val mp,.arr .bnd bs,.box [.ptr 0 0],.box [.lf (.t .tm) tm],.box [.lf (.n .i64) 0,.lf (.n .i64) 0,.lf .s [],.nils],.box [.lf (.n .i64) 0]]
def tB(x:TV):=[.ptr 0 0,.lf (.t .tm) tm,.ptr 3 0,.ptr 4 0,.ptr 5 0,.ptr 6 0,.ptr 7 0,.ptr 0 0,.ptr 0 0,.ptr 0 4,.psl 2 5 none,.nat bs.length,x,.tup [],.tup [],.tup []]
def hB:List TObj:=[.box [.lf (.l .car) cs,.lf (.l .dec) ds,.lf (.l .i) sz,.mapr 1,.psl 2 5 none],.mp .val mp,.arr .bnd bs,.box [.ptr 0 0],.box [.lf (.t .tm) tm],.box [.lf (.n .i64) 0,.lf (.n .i64) 0,.lf .s [],.nils],.box [.lf (.n .i64) 0],.box [.lf (.n .i64) (bs.length:Int)]]
def tP:List TV:=[.ptr 0 0,.lf (.t .tm) tm,.ptr 3 0,.ptr 4 0,.ptr 5 0,.ptr 6 0,.ptr 7 0,.ptr 0 0,.ptr 0 0,.ptr 0 4,.psl 2 5 none,.nat bs.length,.unk,.ptr 0 0,.lf (.t .tm) tm,.tup []]
noncomputable def ac3(t:List TV)(h:List TObj):DS:=⟨t,h,[],[],[],[],[],[]⟩
noncomputable def Xa:Code:=bdy Tryz.f35
noncomputable def o35:List Oper:=opsOf (cL (cR (cR (cR Xa))))
theorem qA:exe ⟨τ,θ,n,Unit,[],3,TE,fun _ _=>none⟩ [] (fun _=>none) (cL Xa) (List TV×List TObj) 2 (ac3 (t35 tm) (Xc cs ds sz mp bs)) (fun _=>none) (fun e s=>match e with | .normal=>some (s.t,s.h) | _=>none)=some (tA tm,hA tm cs ds sz mp bs):=by kernel_rfl
theorem qB:exe ⟨τ,θ,n,Unit,[],3,TE,fun _ _=>none⟩ [] (fun _=>none) (cL (cR Xa)) (List TV×List TObj) 6 (ac3 (tA tm) (hA tm cs ds sz mp bs)) (fun _=>none) (fun e s=>match e with | .normal=>some (s.t,s.h) | _=>none)=some (tB tm bs (.tup []),hB tm cs ds sz mp bs):=by kernel_rfl
theorem qI:exe ⟨τ,θ,n,Val×Int×List Bound,[],3,TE,fun _ _=>none⟩ [lX n] (BF τ 3 Tryz.f35.results.toList (iE n).rs some) (cR (cR (cR Xa))) (Val×Int×List Bound) 15 (ac3 (tB tm bs .unk) (hB tm cs ds sz mp bs)) some
  (fun e s=>match e with | .normal=>BF τ 3 Tryz.f35.results.toList (iE n).rs some s | _=>none)=
  (aH n cs ds sz mp bs tm).bind (PZ.el (fun x=>some (x.1,0,x.2)) fun _ _=>none):=by kernel_rfl
theorem qP:Gd (ac3 (tB tm bs .unk) (hB tm cs ds sz mp bs)).h 0 (fun n'=>Vb τ θ [lX n] (fun v s=>some (v,s)) o35 o35 n' [] {ac3 (tB tm bs .unk) (hB tm cs ds sz mp bs) with h:=(ac3 (tB tm bs .unk) (hB tm cs ds sz mp bs)).h++xC (yY o35)} fun _ _=>none)=
  (aH n cs ds sz mp bs tm).bind (PZ.el (fun _=>none) fun v z=>some (v,⟨tP tm bs,hP tm cs ds sz mp bs z++xC 4,[14,13],[(2,0),(0,5),(8,0)],[],[],[],[]⟩)):=by kernel_rfl
theorem qR:BF τ 3 Tryz.f35.results.toList (iE n).rs some ⟨tP tm bs,hC tm cs ds sz mp bs z c v,[],[(2,0),(0,5)],[],[],[],[]⟩=some (Val.mk 0 0 [] [],v,z.take c):=by kernel_rfl
end
theorem avN cs ds sz mp bs tm t:St 3 (Xc cs ds sz mp bs) (ac3 t (hB tm cs ds sz mp bs)):=
 ⟨(Lj (m:=0) (h:=hB tm cs ds sz mp bs) (t:=t) (qBg _)).inv,qAe rfl,fun l hl _=>by
  match l,hl with
  | 0,_=>exact .inl rfl
  | 1,_=>exact .inl rfl
  | 2,_=>exact .inl rfl⟩
theorem Mf n:EkO (iE n):=by
 refine⟨aD3,by kernel_rfl,fun x y hF t h hb=>?_⟩;obtain⟨tm,cs,ds,sz,mp,bs⟩:=x;obtain⟨rfl,rfl⟩:t=[.ptr 0 0,.lf (.t .tm) tm]∧h=Xc cs ds sz mp bs:=⟨(congrArg Prod.fst hb).symm,(congrArg Prod.snd hb).symm⟩;clear hb;show ∀r h',dB bI (iE n).rs (dU _ ((iE n).out y)) (bZ 2) (Xc cs ds sz mp bs)=(r,h')→cZ Tryz.prog 35 (aR (Xc cs ds sz mp bs) [.ptr 0 0,.lf (.t .tm) tm]) (aA (Xc cs ds sz mp bs)) (av h' (res1 r)) (aA h');intro r h' hb2;have hE:∀e'∈[lX n],ah Tryz.prog TE e':=fun e' he=>by
  rw[qBc.1 he];exact aaA n
 have hte:wM Tryz.prog TE=true:=by kernel_rfl
 have hmix:Tryz.prog.follows .mixedOrders=true:=by kernel_rfl
 have hr0:AW Tryz.prog 3 (cL Xa) (nrm 3 (aR (hA tm cs ds sz mp bs) (tA tm)) (aA (hA tm cs ds sz mp bs))) (aR (Xc cs ds sz mp bs) (t35 tm)) (aA (Xc cs ds sz mp bs)):=
  aa2 lG (fun e he=>by cases he) hte hmix (Lj (h:=Xc cs ds sz mp bs) (qAd 3)) (qA n tm cs ds sz mp bs)
 have hr1:AW Tryz.prog 3 (cL (cR Xa)) (nrm 3 (aR (hB tm cs ds sz mp bs) (tB tm bs (.tup []))) (aA (hB tm cs ds sz mp bs))) (aR (hA tm cs ds sz mp bs) (tA tm)) (aA (hA tm cs ds sz mp bs)):=
  aa2 lG (fun e he=>by cases he) hte hmix (Lj (h:=hA tm cs ds sz mp bs) (qAe rfl)) (qB n tm cs ds sz mp bs)
 have hF:mV n cs ds sz mp bs tm=some y:=hF;unfold mV at hF;have ret:=fun(s:DS) (hst:St 3 (Xc cs ds sz mp bs) s) (hs:BF τ 3 Tryz.f35.results.toList (iE n).rs some s=some y)=>
  ahr (h:=[]) (P:=Tryz.prog) (e:=iE n) (rvs:=Tryz.f35.results.toList) (out:=(iE n).out) (inn:=some) sm (by kernel_rfl) (h0:=Xc cs ds sz mp bs) rfl rfl rfl hst (by rw[←lG];exact hs) hb2
 have hjl:3≤h'.length:=by
  have e2:_=h':=congrArg Prod.snd hb2;rw[←e2];exact qAe rfl
 cases he:aH n cs ds sz mp bs tm with
 | none=>rw[he] at hF;cases hF
 | some o=>
  rw[he] at hF;cases o with
  | ok x=>
   have hy:y=(x.1,0,x.2):=(Option.some.inj hF).symm;refine alQ (f:=35) (d:=72) (n:=12) (r0:=cL Xa) (r1:=cL (cR Xa)) (r3:=cR (cR (cR Xa))) (TB:=aR (hB tm cs ds sz mp bs) (tB tm bs (.tup []))) (HB:=aA (hB tm cs ds sz mp bs)) Tryz.func35 rfl (qAe rfl) rfl rfl rfl rfl rfl rfl (qAe rfl) awE (fun xs w hx=>aDl xs w (by simpa using hx)) hr0 hr1 hjl ?_;exact aAT lG hE hte hmix (avN cs ds sz mp bs tm _) ((qI n tm cs ds sz mp bs).trans (by rw[he,hy];rfl)) ret
  | er v z=>
   have hF:(bif decide ((0:Int)≤v)&&decide (v≤1000) then((Dm (List.length z) (List.length bs:Int)).bind fun c=>bif Nat.ble c (List.length z) then some (Val.mk 0 0 ([]:Str) [],v,List.take c z) else none) else none)=some y:=hF;obtain⟨hv,hF⟩:=(aY hF).resolve_right fun h=>by cases h.2
   simp only[qAa,decide_eq_true_eq] at hv;obtain⟨c,hc,hF⟩:=ob hF;obtain⟨hble,hF⟩:=(aY hF).resolve_right fun h=>by cases h.2
   have hy:y=(Val.mk 0 0 [] [],v,z.take c):=(Option.some.inj hF).symm;refine alz (f:=35) (d:=72) (n:=12) (r0:=cL Xa) (r1:=cL (cR Xa)) (r3:=cR (cR (cR Xa))) (TB:=aR (hB tm cs ds sz mp bs) (tB tm bs (.tup []))) (HB:=aA (hB tm cs ds sz mp bs)) (TP:=aR (hP tm cs ds sz mp bs z) (tP tm bs)) (HP:=aA (hP tm cs ds sz mp bs z)) Tryz.func35 rfl (qAe rfl) rfl rfl rfl rfl rfl rfl (qAe rfl) awE hr0 hr1 hjl ?_ (aEP tm cs ds sz mp bs z c v hv hc hble) ?_
   ·refine AW.seq (x:=.region 3 o35.toArray false) (y:=.ret) ((ath (id:=3) lG hE (avN cs ds sz mp bs tm _).inv ((qP n tm cs ds sz mp bs).trans (by rw[he];rfl))).mono fun e t h hq=>?_);obtain⟨rfl,rfl,rfl⟩:=hq;exact⟨rfl,ar8 (aR (hP tm cs ds sz mp bs z) (tP tm bs)) (aA (hP tm cs ds sz mp bs z)) 4⟩
   ·refine ret ⟨tP tm bs,hC tm cs ds sz mp bs z c v,[],[(2,0),(0,5)],[],[],[],[]⟩ ⟨⟨fun i k c h1=>(by cases h1),fun d i j h1=>(by cases h1),fun d x h1=>(by cases h1)⟩,qAe rfl,fun l hl hno=>?_⟩ (hy▸qR n tm cs ds sz mp bs z c v)
    match l,hl with
    | 0,_=>
     refine .inr ⟨_,_,rfl,rfl,rfl,fun q hq=>?_⟩
     match q with
     | 0=>rfl
     | 1=>rfl
     | 2=>rfl
     | 3=>rfl
     | 4=>cases hq
     | q+5=>rfl
    | 1,_=>exact .inl rfl
    | 2,_=>exact absurd (by simp) hno
end
section
open Go Go.Proofs
set_option maxRecDepth 100000
theorem adp n:EkO (an0 n):=mk n [] (e:=an0 (n)) (inn:=some) .n @Tryz.func28
end
section
open Go Go.Proofs
set_option maxRecDepth 100000
theorem Dx n:EkO (acG n):=mk n [] (e:=acG (n)) (inn:=some) .n @Tryz.func29
theorem yZ:∀n,EkO (FV n)∧EkO (Jh n)
 | 0=>⟨iR (fn:=Tryz.f42) (by kernel_rfl) fun _=>rfl,iR (fn:=Tryz.f16) (by kernel_rfl) fun _=>rfl⟩
 | n+1=>⟨mk n [(58,.lp [.r 5 .I] 0 [])] (e:=FV (n+1)) (inn:=some) (.c (yZ n).2 .n) @Tryz.func42,
  mk n [(3,.jn [.r 4 .B] false)] (e:=Jh (n+1)) (inn:=some) (.c (yZ n).1 .n) @Tryz.func16⟩
theorem xA n:EkO (Jh n):=(yZ n).2
end
section
open Go Go.Proofs
set_option maxRecDepth 100000
end
section
open Go Go.Proofs
set_option maxRecDepth 100000
theorem ZM n:EkO (Ko n):=mk n [(14,.jn [.r 21 .B] false)] (e:=Ko (n)) (inn:=some) (.c (QS n) .n) @Tryz.func40
theorem Oh n:EkO (ao0 n):=mk n [] (e:=ao0 (n)) (inn:=some) .n @Tryz.func21
end
section
open Go Go.Proofs
set_option maxRecDepth 100000
theorem zP n:EkO (aci n):=mk n [(6,.jn [.r 18 .B] false)] (e:=aci (n)) (inn:=some) (.c (LW n) (.c (Ov n) (.c (QS n) (.c (WR n) (.c (Mf n) (.c (LB n) .n)))))) @Tryz.func12
theorem t_eval_interp_holds n:EkO (e_eval_interp_holds n):=mk n [(7,.jn [.r 4 .B,.r 5 .I] false)] (e:=e_eval_interp_holds (n)) (inn:=some) (.c (Mf n) .n) @Tryz.func41
theorem wR n:EkO (ZR n):=mk n [(6,.jn [.r 14 .B] false)] (e:=ZR (n)) (inn:=some) (.c (LW n) (.c (Ov n) (.c (ZM n) (.c (WR n) (.c (t_eval_interp_holds n) .n))))) @Tryz.func14
end
section
open Go Go.Proofs
set_option maxRecDepth 100000
theorem axp n:EkO (akt n):=mk n [(3,.jn [.r 2 .B] false)] (e:=akt (n)) (inn:=some) (.c (RN n) (.c (MV n) .n)) @Tryz.func126
theorem ab9 n:EkO (RQ n):=mk n [(6,.jn [.r 17 .B] false),(122,.lp [.r 3 .I,.r 4 .I] 0 [.r 3 .I])] (e:=RQ (n)) (inn:=some) (.c (MV n) .n) @Tryz.func130
theorem avK n:EkO (ako n):=mk n [(58,.lp [.r 6 .I] 0 []),(932,.jn [.r 40 .B] false)] (e:=ako (n)) (inn:=some) (.c (aaJ n) .n) @Tryz.func131
theorem aen n:EkO (adT n):=mk n [(12,.lp [.r 1 .I] 0 [.r 1 .I]),(48,.jn [.r 29 .B] false),(124,.lp [.r 5 .I] 2 [.r 5 .I]),(496,.jn [.r 48 .B] false),(508,.jn [.r 55 .B] false),(2035,.jn [.r 67 .B] false),(32574,.jn [.r 6 .S] false),(32575,.jn [.r 103 .B] false),(65148,.jn [.r 94 .B] false)] (e:=adT (n)) (inn:=fun y=>some (S_refinementref01_token.mk y.1 y.2.1 y.2.2)) (.c (axp n) (.c (RN n) (.c (Zn n) (.c (MV n) (.c (ab9 n) (.c (avK n) .n)))))) @Tryz.func63 (by kernel_rfl) (by intro z y h;first | (cases h;rfl) | (obtain⟨h1,h2⟩:=(aY h).resolve_right fun h=>(by cases h.2);cases h2;exact Prod.ext (qCs.1 h1).symm rfl) | (obtain⟨h1,h2⟩:=(aY h).resolve_right fun h=>(by cases h.2);cases h2;obtain⟨z1,z2⟩:=z;cases z2;rfl;cases h1) | (simp only[cond] at h;split at h<;>cases h;simp_all)) fun _=>by kernel_rfl
theorem xq n:EkO (IG n):=mk n [] (e:=IG (n)) (inn:=some) .n @Tryz.func66
theorem Tt n:EkO (Ju n):=mk n [(3,.jn [.r 4 .B] false)] (e:=Ju (n)) (inn:=some) .n @Tryz.func132
theorem O4 n:EkO (Pm n):=mk n [] (e:=Pm (n)) (inn:=some) (.c (xq n) .n) @Tryz.func201
theorem EC n:EkO (EB n):=mk n [(1,.jn [.o 0 (.bx [(4,.lf (.n .i64)),(5,.lf (.n .i64)),(6,.lf (.n .i64))])] false),(3,.jn [.o 0 (.bx [(4,.lf (.n .i64))])] false)] (e:=EB (n)) (inn:=some) (.c (aaJ n) (.c (O4 n) (.c (aen n) .n))) @Tryz.func133
theorem wL n:EkO (Dr n):=mk n [] (e:=Dr (n)) (inn:=some) (.c (O4 n) .n) @Tryz.func136
theorem aej n:EkO (EU n):=mk n [] (e:=EU (n)) (inn:=some) (.c (xq n) (.c (Tt n) (.c (wL n) (.c (EC n) .n)))) @Tryz.func291
theorem U5 n:EkO (yD n):=mk n [(7,.jn [.r 2 .B] false)] (e:=yD (n)) (inn:=some) (.c (aen n) .n) @Tryz.func329
theorem alT n:EkO (WM n):=mk n [] (e:=WM (n)) (inn:=some) .n @Tryz.func331
theorem ahU n:EkO (TQ n):=mk n [] (e:=TQ (n)) (inn:=some) .n @Tryz.func332
theorem awJ n:EkO (akO n):=mk n [] (e:=akO (n)) (inn:=some) .n @Tryz.func333
theorem aq5 n:EkO (ab0 n):=mk n [] (e:=ab0 (n)) (inn:=some) (.c (alT n) (.c (ahU n) (.c (awJ n) .n))) @Tryz.func292
theorem VK n:EkO (yx n):=mk n [(6,.jn [.r 20 .B] false)] (e:=yx (n)) (inn:=some) (.c (aq5 n) .n) @Tryz.func204
theorem adB n:EkO (EN n):=mk n [(30,.jn [.r 21 .B] false)] (e:=EN (n)) (inn:=some) (.c (xq n) (.c (Rq n) (.c (wL n) (.c (EC n) .n)))) @Tryz.func330
theorem aqs n:EkO (RZ n):=mk n [(58,.lp [.r 4 .I] 0 [])] (e:=RZ (n)) (inn:=some) .n @Tryz.func290
end
section
open Go Go.Proofs
set_option maxRecDepth 100000
theorem agS n:EkO (Gx n):=mk n [(1,.jn [.r 11 .B] false)] (e:=Gx (n)) (inn:=some) (.c (xq n) (.c (wL n) .n)) @Tryz.func65
end
section
open Go Go.Proofs
set_option maxRecDepth 100000
noncomputable def P1(n:Nat)(E:List Ent)(fn:Func)(f na:Nat)(ps:List Ed)(nr:Nat)(rs:List Ed)(hs:List (Nat×Hn)):Ent:=
 ⟨f,na,ps,nr,rs,jg (bD rs),none,none,fun x=>ait τ θ n hs E TE fn ⟨f,na,ps,nr,rs,jg (bD rs),none,none,fun _=>none,fun r=>r⟩ some x,fun r=>r⟩
theorem mkP{n}{E}{fn}{f na}{ps}{nr}{rs}{hs}(hE:EOs Tryz.prog TE E)(hf:Tryz.prog.funcs[f]? =some fn)(hc:ahs Tryz.prog fn (P1 n E fn f na ps nr rs hs)=true):EkO (P1 n E fn f na ps nr rs hs):=
 mk n hs (e:=P1 n E fn f na ps nr rs hs) (inn:=some) hE hf hc (fun z y h=>by cases h;rfl) fun _=>rfl
theorem EOs.app{P}{te}{l m}(h:EOs P te l)(k:EOs P te m):EOs P te (l++m):=by
 induction h with
 | n=>exact k
 | c h _ ih=>exact .c h ih
abbrev pi:Sk:=.lf (.n .i64)
abbrev pbx:Ed:=.w (.box [.S,pi,.S,pi,pi,pi,pi])
abbrev Kr:Ed:=.o 0 (.bx [(1,pi),(2,.lf .s),(3,pi),(4,pi),(5,pi),(6,pi)])
def PB n:=[Ru n,UZ n,RQ n,adT n,Gx n,yD n,Ju n,EU n,EN n,IG n,yx n,EB n,Dr n,RZ n]
theorem az5 n:EOs Tryz.prog TE (PB n):=.c (Rq n) (.c (yR n) (.c (ab9 n) (.c (aen n) (.c (agS n) (.c (U5 n) (.c (Tt n) (.c (aej n) (.c (adB n) (.c (xq n) (.c (VK n) (.c (EC n) (.c (wL n) (.c (aqs n) (.n))))))))))))))
noncomputable def PR n E:=
 [P1 n E Tryz.f328 328 1 [.r 0 (.ptr 0 0),pbx] 1 [.r 0 .Tty,Kr] [(115,.jn [.r 16 .B] false)],
  P1 n E Tryz.f289 289 2 [.r 0 (.ptr 0 0),.r 1 pi,pbx] 1 [.r 0 .Ttm,Kr] [],
  P1 n E Tryz.f135 135 3 [.r 0 (.ptr 0 0),.r 1 .Ttm,.r 2 pi,pbx] 1 [.r 0 .Ttm,Kr] [(12,.lp [Kr,.o 1 (.bx [(0,pi),(1,.lf .s),(2,pi),(3,pi),(4,.lf .s),(5,.lf (.l .ty)),(6,.lf (.l .tm))])] 0 [Kr,.o 1 (.bx [(0,pi),(1,.lf .s),(2,pi),(3,pi),(4,.lf .s),(5,.lf (.l .ty)),(6,.lf (.l .tm))])]),(6330,.jn [.r 19 .B] false)],
  P1 n E Tryz.f288 288 1 [.r 0 (.ptr 0 0),pbx] 1 [.r 0 .Ttm,Kr] [(31,.jn [Kr,.o 2 (.bx [(0,pi),(1,.lf .s),(2,pi),(3,pi),(4,.lf .s),(5,.lf (.l .ty)),(6,.lf (.l .tm))]),.o 3 .dead] true),(62,.jn [.r 42 .B] false),(508,.lp [Kr,.o 5 (.bx [(6,.own 6)]),.w (.own .tm),.o 2 .dead,.o 4 .dead] 2 [Kr,.o 5 (.bx [(6,.own 6)]),.w (.own .tm),.o 2 .dead,.o 4 .dead]),(2032,.jn [.r 89 .B] false),(4014,.jn [.r 54 .B] false),(32126,.lp [.r 8 pi,Kr,.o 2 (.bx [(0,pi),(1,.lf .s),(2,pi),(3,pi),(4,.lf .s),(5,.lf (.l .ty)),(6,.lf (.l .tm))]),.o 3 .dead,.o 4 .dead,.o 5 .dead] 0 [Kr,.o 2 (.bx [(0,pi),(1,.lf .s),(2,pi),(3,pi),(4,.lf .s),(5,.lf (.l .ty)),(6,.lf (.l .tm))]),.o 3 .dead,.o 4 .dead,.o 5 .dead])],
  P1 n E Tryz.f202 202 1 [.r 0 (.ptr 0 0),pbx] 1 [.r 0 .Ttm,Kr] [(30408703,.jn [.r 73 .B] false)],
  P1 n E Tryz.f134 134 1 [.r 0 (.ptr 0 0),pbx] 1 [.r 0 .Ttm,Kr] [(28,.lp [Kr,.o 2 (.bx [(0,pi),(1,.lf .s),(2,pi),(3,pi),(4,.lf .s),(5,.lf (.l .ty)),(6,.lf (.l .tm))])] 0 [Kr,.o 2 (.bx [(0,pi),(1,.lf .s),(2,pi),(3,pi),(4,.lf .s),(5,.lf (.l .ty)),(6,.lf (.l .tm))])])],
  P1 n E Tryz.f64 64 2 [.r 0 (.ptr 0 0),.r 1 pi,pbx] 1 [.r 0 .Ttm,Kr] [(51,.jn [.r 10 .B] false),(207,.jn [.r 23 .B] false)],
  P1 n E Tryz.f203 203 2 [.r 0 (.ptr 0 0),.r 1 .S,pbx] 1 [.r 0 .Ttm,Kr] []]
noncomputable def PE:Nat→List Ent
 | 0=>[]
 | n+1=>PR n (PE n++PB n)
theorem aAv:∀n,EOs Tryz.prog TE (PE n)
 | 0=>.n
 | n+1=>have h:=(aAv n).app (az5 n)
  .c (mkP h @Tryz.func328 (by kernel_rfl)) (.c (mkP h @Tryz.func289 (by kernel_rfl)) (.c (mkP h @Tryz.func135 (by kernel_rfl)) (.c (mkP h @Tryz.func288 (by kernel_rfl)) (.c (mkP h @Tryz.func202 (by kernel_rfl)) (.c (mkP h @Tryz.func134 (by kernel_rfl)) (.c (mkP h @Tryz.func64 (by kernel_rfl)) (.c (mkP h @Tryz.func203 (by kernel_rfl)) (.n))))))))
noncomputable def af6 n:=P1 n (PE n++PB n) Tryz.f30 30 1 [.r 0 .S] 3 [.r 0 .Ttm,.r 1 pi,.r 2 pi] []
theorem atb n:EkO (af6 n):=mkP ((aAv n).app (az5 n)) @Tryz.func30 (by kernel_rfl)
noncomputable def V9(n:Nat)(s:Str):Option (Tm×Int×Int):=(af6 n).F s
noncomputable def ME n:=(V9 n [99,97,114,100,40,65,32,43,45,62,32,123,49,125,41]).bind fun(x1:Tm×Int×Int)=>(V9 n ([110,32,61,32,48,32,111,114,32,54,32,47,32,110,32,61,32,50]:Str)).bind fun(x2:Tm×Int×Int)=>((kU n (S_api_World.mk (Env.mk ([(Carrier.mk ([65]:Str) ([]))]) ([(Decl.mk ([110]:Str) (Ty.mk 1 ([]:Str) ([])))])) ([2]) ([(Val.mk 1 3 ([]:Str) ([]))])) x1.1).bind fun(x3:Val×Int)=>((kE n (S_api_World.mk (Env.mk ([(Carrier.mk ([65]:Str) ([]))]) ([(Decl.mk ([110]:Str) (Ty.mk 1 ([]:Str) ([])))])) ([2]) ([(Val.mk 1 3 ([]:Str) ([]))])) x2.1).bind fun(x4:Bool×Int)=>(((cond (x3.2==0) (cond (x3.1.kind==1) (cond (x3.1.n==4) (cond (x4.2==0) (some x4.1) (some false)) (some false)) (some false)) (some false)):Option Bool).bind fun(s1:Bool)=>some s1)))
noncomputable def GI(n:Nat):Ent:=⟨11,0,[],1,[.r 0 .B],Bool,none,none,fun x=>ME n,fun r=>r⟩
theorem apb n:EkO (GI n):=mk n [(255,.jn [.r 0 .B] false)] (e:=GI (n)) (inn:=some) (.c (adp n) (.c (Dx n) (.c (atb n) (.c (zP n) (.c (wR n) .n))))) @Tryz.func11
end
section
open Go Go.Proofs
set_option maxRecDepth 100000
set_option maxRecDepth 100000 in
theorem aCP:V9 150 [99,97,114,100,40,65,32,43,45,62,32,123,49,125,41]=some (.mk 47 [] 0 (.mk 0 [] []) [.mk 42 [] 0 (.mk 0 [] []) [.mk 20 [65] 0 (.mk 0 [] []) [],.mk 28 [] 0 (.mk 0 [] []) [.mk 19 [] 1 (.mk 0 [] []) []]]],0,0):=by kernel_rfl
theorem aC6:V9 150 [110,32,61,32,48,32,111,114,32,54,32,47,32,110,32,61,32,50]=some (.mk 5 [] 0 (.mk 0 [] []) [.mk 10 [] 0 (.mk 0 [] []) [.mk 20 [110] 0 (.mk 0 [] []) [],.mk 19 [] 0 (.mk 0 [] []) []],.mk 10 [] 0 (.mk 0 [] []) [.mk 25 [] 0 (.mk 0 [] []) [.mk 19 [] 6 (.mk 0 [] []) [],.mk 20 [110] 0 (.mk 0 [] []) []],.mk 19 [] 2 (.mk 0 [] []) []]],0,0):=by kernel_rfl
theorem aup:ME 150=some true:=by
 unfold ME;rw[aCP,aC6]
 kernel_rfl
theorem aC5 m:(GI m).F ()=ME m:=rfl
theorem BM n:EkO (aff n):=by
 have h:=apb 150;have h1:j4 Tryz.prog 11=true:=h.1;have h3:=h.2.2 () true ((aC5 150).trans aup);refine⟨h1,by kernel_rfl,fun x y hy=>?_⟩;cases hy;dsimp only[GI] at h3;dsimp only[aff];exact h3
end
section
open Go Go.Proofs
set_option maxRecDepth 100000
theorem alu n:EkO (Xj n):=mk n [(6,.jn [.r 38 .B] false),(510,.jn [.r 93 .B] false),(1022,.jn [.r 122 .B] false),(32766,.jn [.r 176 .B] false),(65534,.jn [.r 194 .B] false),(65535,.jn [.r 6 .B] false)] (e:=Xj (n)) (inn:=some) (.c (BQ n) (.c (Ck n) (.c (BM n) (.c (zP n) (.c (Oh n) (.c (ai5 n) (.c (wR n) (.c (xA n) .n)))))))) @Tryz.func8
end
section
open Go
theorem iA{env}(h:aZ env=true):env.carriers.length≤8∧env.names.length≤64∧env.carriers.all I8=true∧env.names.all (Ct env)=true∧(names2 env).Nodup:=by
 simp only[aZ,qAa,qAF,qBv,decide_eq_false_iff_not,ac4] at h;obtain⟨⟨h1,h2⟩,h3,h4,h5⟩:=h;exact⟨by omega,by omega,h3,h4,h5⟩
theorem aha{env}(h:aZ env=true){d}(hd:d∈env.names):named d.name=true∧eG d.ty=true∧yt 2 d.ty=false∧(dN d.ty).all (bV env)=true:=by
 have:=qAE.1 (iA h).2.2.2.1 d hd;simp only[Ct,qAa,qAF] at this;exact⟨this.1,this.2.1.1,this.2.1.2,this.2.2⟩
theorem Rp{env}(h:aZ env=true){c}(hc:c∈env.carriers):ident c.name=true∧c.elems.length≤8∧c.elems.all ident=true:=by
 have:=qAE.1 (iA h).2.2.1 c hc;simp only[I8,qAa,qAF,decide_eq_false_iff_not] at this;exact⟨this.1,by omega,this.2.2⟩
def wS(s:Str):Ty:=.mk 3 s []
def ak(t:Ty):Ty:=.mk 5 [] [t]
def iL(c:Carrier):=(c.name,ak (wS c.name))::c.elems.map fun e=>(e,wS c.name)
def pW(env:Env):=env.carriers.flatMap iL++env.names.map fun d=>(d.name,d.ty)
def aeB(env:Env):=(env.names.map fun d=>(d.name,d.ty))++((env.carriers.map fun c=>(c.name,ak (wS c.name)))++env.carriers.flatMap fun c=>c.elems.map fun e=>(e,wS c.name))
def look env s:=dw (aeB env) s
theorem agF env:(pW env).Perm (aeB env):=by
 unfold pW aeB;refine List.Perm.trans ?_ qCP;refine qCl _ ?_;generalize env.carriers=cs
 induction cs with
 | nil=>simp
 | cons c cs ih=>
  simp only[qBb,qAu,qAM,iL];refine List.Perm.cons _ ?_;refine(qDL _ ih).trans ?_;rw[←qAo,←qAo];exact qCl _ qCP
theorem acQ env:(pW env).map (·.1)=Bt env:=by
 simp only[pW,Bt,qAY,qBh,List.map_flatMap,iL,qAu];congr 1
 ·congr 1;funext c;simp[qCE]
theorem AO{env}(h:aZ env=true):((pW env).map (·.1)).Nodup:=by
 rw[acQ,(Ni env).nodup_iff];exact(iA h).2.2.2.2
theorem EF{env}(h:aZ env=true){s}{t}:look env s=some t↔(s,t)∈pW env:=by
 unfold look;rw[←afq (agF env) (AO h),yh _ _ _ (AO h)]
theorem ayM{env}(h:aZ env=true):Ev (fun n=>GH n env) (fA (pW env) []):=by
 obtain⟨hc8,hn64,_,_,_⟩:=iA h;unfold GH;have hin:∀(c:Carrier) (m:List (Str×Ty)),c.elems.length≤8→m.length≤10000→Ev (fun n=>vo n c n (0,m)) (.nx (fA (c.elems.map fun e=>(e,wS c.name)) m)):=fun c m hce hm=>by
  have h1:=qO (ρ:=List (Str×Ty)) c.elems (fun n k i s=>vo n c k (i,s)) (fun n x s=>xG s x (wS c.name)) (fun x s=>jX s x (wS c.name)) (fun s=>s) (fun suf s=>s.length+suf.length≤10008)
   (fun n k i s=>rfl)
   (fun x suf s hx hs=>by
    simp only[qAm] at hs;refine⟨?_,?_⟩
    ·rw[I4 (by omega)];exact Ev.ret _
    ·have:=AU s x (wS c.name);omega) (s0:=m) (by omega)
  have hf:∀(es:List Str) (m:List (Str×Ty)),es.foldl (fun s x=>jX s x (wS c.name)) m=fA (es.map fun e=>(e,wS c.name)) m:=by
   intro es
   induction es with
   | nil=>intro m;rfl
   | cons e es ih=>intro m;rw[qBl,ih];rfl
  rw[hf] at h1;exact h1
 have h1:=Ua env.carriers (fun n k i s=>Q7 n env k (i,s)) (fun n x s=>(xG s x.name (ak (wS x.name))).bind fun x4=>(vo n x n (0,x4)).bind (LR.el (fun s6=>some (.nx s6)) (fun r=>some (.rt r)))) (fun x s=>.nx (fA (iL x) s)) (fun s=>s)
  (fun suf s=>s.length+9*suf.length≤100)
  (fun n k i s=>by
   show cond _ _ _=_;congr 1;show(idx env.carriers i).bind _=_;congr 1;funext x;show(xG s x.name (ak (wS x.name))).bind _=_;cases xG s x.name (ak (wS x.name)) with
   | none=>rfl
   | some y=>
    simp only[qAb];cases vo n x n (0,y) with
    | none=>rfl
    | some r=>cases r<;>rfl)
  (fun x suf s hx hs=>by
   simp only[qAm] at hs;have hx8:=(Rp h hx).2.1;refine⟨?_,fun s' he=>?_⟩
   ·rw[I4 (by omega)];simp only[qAb];have:=AU s x.name (ak (wS x.name));exact Ev.bind (hin x _ hx8 (by omega)) (Ev.ret _)
   ·cases he;have:=MU (iL x) s;simp only[iL,qAm,qAh] at this⊢;omega) (s0:=([]:List (Str×Ty))) (by simp only[qAK];omega)
 rw[Yc] at h1;have hf1:∀(cs:List Carrier) (m:List (Str×Ty)),cs.foldl (fun s x=>fA (iL x) s) m=fA (cs.flatMap iL) m:=by
  intro cs
  induction cs with
  | nil=>intro m;rfl
  | cons c cs ih=>intro m;rw[qBl,ih,qBb,Vh]
 rw[hf1] at h1;have hl1:(fA (env.carriers.flatMap iL) []).length≤100:=by
  have key:∀cs:List Carrier,(∀c∈cs,c.elems.length≤8)→(cs.flatMap iL).length≤9*cs.length:=by
   intro cs
   induction cs with
   | nil=>intro _;simp
   | cons c cs ih=>
    intro hh;have a:=hh c (qBF ..);have b:=ih fun c hc=>hh c (qAl _ hc);simp only[qBb,qAf,iL,qAm,qAh] at b⊢;omega
  have a:=key env.carriers fun c hc=>(Rp h hc).2.1;have b:=MU (env.carriers.flatMap iL) [];simp only[qAK] at b;omega
 have h2:=qO (ρ:=List (Str×Ty)) env.names (fun n k i s=>QX n env k (i,s)) (fun n x s=>xG s x.name x.ty) (fun x s=>jX s x.name x.ty) (fun s=>s) (fun suf s=>s.length+suf.length≤1000)
  (fun n k i s=>rfl)
  (fun x suf s hx hs=>by
   simp only[qAm] at hs;refine⟨?_,?_⟩
   ·rw[I4 (by omega)];exact Ev.ret _
   ·have:=AU s x.name x.ty;omega) (s0:=fA (env.carriers.flatMap iL) []) (by omega)
 have hf2:∀(ds:List Decl) (m:List (Str×Ty)),ds.foldl (fun s x=>jX s x.name x.ty) m=fA (ds.map fun d=>(d.name,d.ty)) m:=by
  intro ds
  induction ds with
  | nil=>intro m;rfl
  | cons e es ih=>intro m;rw[qBl,ih];rfl
 rw[hf2,←Vh] at h2;exact Ev.bind h1 (Ev.bind h2 (Ev.ret _))
def aW:Ty:=.mk 0 [] []
theorem QY{α β:Type}(f:α→Str)(g:α→β)(l:List α) k:dw (l.map fun x=>(f x,g x)) k=(l.find? fun x=>f x==k).map g:=by
 induction l with
 | nil=>rfl
 | cons x l ih=>
  rw[qAu,mU,qBX,ih];cases f x==k<;>rfl
end
section
open Go
theorem arC{α β γ:Type} l l' i (F:α→β→Option γ):((idx l i).bind fun x=>(idx l' i).bind fun y=>F x y)=(idx (l.zip l') i).bind fun p=>F p.1 p.2:=by
 unfold idx;by_cases h:0≤i
 ·simp only[if_pos h,List.zip,List.getElem?_zipWith];cases l[i.toNat]?<;>cases l'[i.toNat]?<;>rfl
 ·simp only[if_neg h];rfl
theorem Z4{α β ρ} l l' (hlen:l.length=l'.length)(L:Nat→Nat→Int→Option (LR Unit ρ))(step:Nat→α→β→Option Bool)(p:α→β→Bool) r
  (hL:∀n k i,L n (k+1) i=cond (decide (i<(l.length:Int))) ((idx l i).bind fun x=>(idx l' i).bind fun y=>(step n x y).bind fun b=>cond b (some (.rt r)) (L n k (i+1))) (some (.nx ())))
  (hp:∀x∈l,∀y,Ev (fun n=>step n x y) (p x y)):Ev (fun n=>L n n 0) (cond ((l.zip l').any fun q=>p q.1 q.2) (.rt r) (.nx ())):=by
 refine qH (l.zip l') L (fun n q=>step n q.1 q.2) (fun q=>p q.1 q.2) r (fun n k i=>?_) (fun q hq=>hp q.1 (qCZ hq).1 q.2);rw[hL,←arC l l' i fun x y=>(step n x y).bind fun b=>cond b (some (.rt r)) (L n k (i+1))];have:((l.zip l').length:Int)=(l.length:Int):=by rw[qDC,←hlen,Nat.min_self]
 rw[this]
mutual
def aQ:Ty→Ty→Bool
 | .mk k n ks,.mk k' n' ks'=>k==k'&&(n==n'&&yU ks ks')
def yU:List Ty→List Ty→Bool
 | [],[]=>true
 | [],_::_=>false
 | _::_,[]=>false
 | a::ar,b::br=>aQ a b&&yU ar br
end
mutual
theorem mh:∀a b:Ty,aQ a b=true→a=b
 | .mk k n ks,.mk k' n' ks',h=>by
  simp only[aQ,qAa,beq_iff_eq] at h;obtain⟨h1,h2,h3⟩:=h;rw[h1,h2,amA ks ks' h3]
theorem amA:∀a b:List Ty,yU a b=true→a=b
 | [],[],_=>rfl
 | [],_::_,h=>by cases h
 | _::_,[],h=>by cases h
 | a::ar,b::br,h=>by
  simp only[yU,qAa] at h;rw[mh a b h.1,amA ar br h.2]
end
mutual
theorem Z8:∀a:Ty,aQ a a=true
 | .mk k n ks=>by simp only[aQ,beq_self_eq_true,afA ks,qDl]
theorem afA:∀a:List Ty,yU a a=true
 | []=>rfl
 | a::ar=>by simp only[yU,Z8 a,afA ar,qDl]
end
theorem Z5:∀l l':List Ty,l.length=l'.length→(l.zip l').any (fun q=>!aQ q.1 q.2)=!yU l l'
 | [],[],_=>rfl
 | [],_::_,h=>by cases h
 | _::_,[],h=>by cases h
 | a::ar,b::br,h=>by
  have:=Z5 ar br (by simpa using h);simp only[qDh,qDm,this,yU];cases aQ a b<;>rfl
theorem aag:∀l l':List Ty,l.length≠l'.length→yU l l'=false
 | [],[],h=>absurd rfl h
 | [],_::_,_=>rfl
 | _::_,[],_=>rfl
 | a::ar,b::br,h=>by
  have:=aag ar br (by simpa using h);simp only[yU,this,qCq]
theorem EI:∀t u:Ty,Ev (fun n=>iM n t u) (aQ t u):=Ty.ind fun k nm ks ih u=>by
 obtain⟨k',nm',ks'⟩:=u;refine Ev.succ ?_;show Ev (fun n=>Dh n _ _ (.mk k nm ks) (.mk k' nm' ks')) _;unfold Dh;simp only[Ty.kind,Ty.name,Ty.kids,aQ];cases k==k' with
 | false=>exact Ev.ret _
 | true=>
  cases nm==nm' with
  | false=>exact Ev.ret _
  | true=>
   simp only[cond_true,qAz];refine Ev.bind (a:=yU ks ks') (Ev.bind (a:=yU ks ks') (Ev.succ ?_) (Ev.ret _)) (Ev.ret _);show Ev (fun n=>qM n _ _ ks ks') _;unfold qM;simp only[bne];cases hl:(ks.length:Int)==(ks'.length:Int) with
   | false=>
    have:ks.length≠ks'.length:=fun e=>by simp[e] at hl
    rw[aag ks ks' this];exact Ev.ret _
   | true=>
    have hlen:ks.length=ks'.length:=by have:=beq_iff_eq.1 hl;omega
    simp only[qAC,cond_false];have h:=Z4 ks ks' hlen (fun n k'' i=>BI n (fun p0 p1=>qd n p0 p1) (fun p0 p1=>iM n p0 p1) ks ks' k'' i) (fun n x y=>(iM n x y).bind fun b=>some (!b)) (fun x y=>!(aQ x y)) false
     (fun n k'' i=>by
      show cond _ _ _=_;congr 1;congr 1;funext x;congr 1;funext y;simp only[qBT,qAb];rfl)
     (fun x hx y=>Ev.bind (ih x hx y) (Ev.ret _))
    rw[Z5 ks ks' hlen] at h;refine Ev.bind h ?_;cases yU ks ks'
    ·exact Ev.ret _
    ·exact Ev.ret _
end
end Abs
end Go.Proofs.YtneeginmfjageaaGreat

/-
  Contracts of library functions as entries. Conditions: none.
-/
import Derived.KernelRfl
import Derived.Test.YtneeginmfjageaaGreatCClnox5c0d8e
import Derived.Test.YtneeginmfjageaaGreatCDfox36c076
import Derived.Test.YtneeginmfjageaaGreatCP1ox88080b
set_option linter.unusedSimpArgs false
set_option linter.unusedVariables false
namespace Go.Proofs.YtneeginmfjageaaGreat
namespace Abs
section
open Go Go.Proofs
theorem MH{P}{te}{e}(h1:j4 P e.f=true)(h2:M5 e=true)(hp:e.pe=none)(h:∀x y,e.F x=some y→∀y',HEq y' y→cZ P e.f (aR (dB bI e.ps (dU _ x) (bZ e.na) []).2 (dB bI e.ps (dU _ x) (bZ e.na) []).1) (aA (dB bI e.ps (dU _ x) (bZ e.na) []).2)
  (av (dB bI e.rs (dU _ (e.out y')) (bZ e.nr) (dB bI e.ps (dU _ x) (bZ e.na) []).2).2 (res1 (dB bI e.rs (dU _ (e.out y')) (bZ e.nr) (dB bI e.ps (dU _ x) (bZ e.na) []).2).1)) (aA (dB bI e.rs (dU _ (e.out y')) (bZ e.nr) (dB bI e.ps (dU _ x) (bZ e.na) []).2).2)):ah P te e:=by
 obtain⟨f,na,ps,nr,rs,R,pe,g,F,out⟩:=e;cases hp;refine⟨h1,h2,fun x y hF t h' hb=>?_⟩;have:=h x y hF y HEq.rfl;intro r h2 hb2
 grind
theorem abM n:EkO (abG n):=MH aDF (by kernel_rfl) rfl fun x y h y' hy=>by
 cases hy;exact Zb n x.1 x.2 y h
theorem adu{α}{b}{x y}(h:app b ([]:List α) x=some y):y=x:=by
 unfold app at h
 grind
theorem V6 n:EkO (VP n):=MH awZ (by kernel_rfl) rfl fun x y h y' hy=>by
 cases hy;have e:y=x:=adu h;subst e;exact EJ 56 y y h rfl
theorem DU n:EkO (RL n):=MH awZ (by kernel_rfl) rfl fun x y h y' hy=>by
 cases hy;have e:y=x:=adu h;subst e;exact ad9 56 y y h rfl
theorem PI n:EkO (PO n):=MH aBI (by kernel_rfl) rfl fun x y h y' hy=>by
 cases hy;have e:y=x:=adu h;subst e;exact abC 24 y y h rfl
theorem Yo n:EkO (Yj n):=MH aC2 (by kernel_rfl) rfl fun x y h y' hy=>by
 cases hy;exact XZ n x y h
theorem Vu n p0 r (h:wF n p0=some r):cZ Tryz.prog 74 [.psl 0 4 (List.length p0)] [.arr 4 (List.map aN p0)] (.psl 0 4 (List.length p0)) [.arr 4 (List.map aN p0)]:=by
 intro κ aj w vs hen hvl hr;have h0:=hr 0 (by simp)
 match vs,hvl with
 | [v],_=>
 simp only[List.getD,qAD,qAv] at h0;cases h0 with
 | @psl _ _ _ cap a g1 g2 g3=>
  refine(Gh a _ cap g1 g2 w).mono ?_;rintro e w' ⟨rfl,rfl⟩;refine⟨_,κ,rfl,Leave.same hen (qCY _ _),.psl (qAd _) g2 ?_⟩;obtain⟨_,⟨ha,hc⟩ | ⟨b,c,el,hb,ha,hh,hs⟩⟩:=g3
  ·exact⟨rfl,.inl ⟨ha,by omega⟩⟩
  ·exact⟨rfl,.inr ⟨b,c,el,hb,ha,hh,qAs (qAR 4 g1) hs⟩⟩
theorem XA n:EkO (XI n):=MH aCC (by kernel_rfl) rfl fun x y h y' hy=>by
 cases hy;exact Vu n x x rfl
theorem Ry n:EkO (Rx n):=MH aAP (by kernel_rfl) rfl fun x y h y' hy=>by
 cases hy;exact Pw n x y h
end
section
open Go Go.Proofs
set_option maxRecDepth 100000
theorem BQ n:EkO (aeY n):=mk n [(3,.jn [.r 2 .B] false)] (e:=aeY (n)) (inn:=some) .n @Tryz.func9
theorem avo n:EkO (akA n):=mk n [(12,.jn [.r 3 .B] false),(51,.jn [.r 22 .B] false),(831,.jn [.r 40 .B] false)] (e:=akA (n)) (inn:=some) .n @Tryz.func174
theorem RN n:EkO (abT n):=mk n [(3,.jn [.r 2 .B] false)] (e:=abT (n)) (inn:=some) .n @Tryz.func127
theorem aaJ n:EkO (asB n):=mk n [(26,.lp [.r 5 .I] 0 [])] (e:=asB (n)) (inn:=some) .n @Tryz.func103
theorem Zn n:EkO (Zf n):=mk n [] (e:=Zf (n)) (inn:=some) (.c (aaJ n) .n) @Tryz.func128
theorem MV n:EkO (af3 n):=mk n [(3,.jn [.r 2 .B] false)] (e:=af3 (n)) (inn:=some) .n @Tryz.func129
theorem uK n:EkO (Qr n):=mk n [(6,.jn [.r 21 .B] false),(58,.lp [.r 3 .I] 0 []),(932,.jn [.r 45 .B] false)] (e:=Qr (n)) (inn:=some) (.c (RN n) (.c (Zn n) (.c (MV n) .n))) @Tryz.func99
theorem Rq n:EkO (Ru n):=mk n [(3,.jn [.r 2 .B] false)] (e:=Ru (n)) (inn:=some) (.c (uK n) .n) @Tryz.func176
theorem agX n:EkO (aey n):=mk n [(3,.jn [.r 2 .B] false)] (e:=aey (n)) (inn:=some) (.c (uK n) (.c (Rq n) .n)) @Tryz.func100
theorem Rz n:EkO (abY n):=mk n [(3,.jn [.r 2 .B] false)] (e:=abY (n)) (inn:=some) .n @Tryz.func62
theorem afI:∀n,EkO (agf n)
 | 0=>iR (fn:=Tryz.f119) (by kernel_rfl) fun _=>rfl
 | n+1=>mk n [(14,.jn [.r 25 .B] false),(31,.jn [.r 7 .I] true),(126,.jn [.r 61 .B] false),(250,.jn [.r 28 .B] false),(1018,.lp [.r 2 .I,.r 8 .I] 1 [.r 2 .I])] (e:=agf (n+1)) (inn:=some) (.c (uK n) (.c (afI n) .n)) @Tryz.func119
theorem Cr n:EkO (TS n):=mk n [] (e:=TS (n)) (inn:=some) (.c (afI n) .n) @Tryz.func57
theorem alY n:EkO (WE n):=mk n [(3,.jn [.r 2 .B] false)] (e:=WE (n)) (inn:=some) .n @Tryz.func175
theorem awS n:EkO (akc n):=mk n [(14,.jn [.r 29 .B] false),(15,.jn [] true),(62,.jn [.r 72 .B] false),(506,.jn [.r 2 .B] false)] (e:=akc (n)) (inn:=some) (.c (avo n) (.c (agX n) (.c (Rz n) (.c (uK n) (.c (Cr n) (.c (alY n) .n)))))) @Tryz.func98
theorem agu:∀n,EkO (agm n)
 | 0=>iR (fn:=Tryz.f49) (by kernel_rfl) fun _=>rfl
 | n+1=>mk n [(14,.jn [.r 20 .B] false),(122,.lp [.r 2 .I,.r 7 .I] 0 [.r 2 .I])] (e:=agm (n+1)) (inn:=some) (.c (awS n) (.c (agu n) .n)) @Tryz.func49
theorem yR n:EkO (UZ n):=mk n [] (e:=UZ (n)) (inn:=some) (.c (agu n) .n) @Tryz.func22
theorem aj2:∀n,EkO (ajW n)
 | 0=>iR (fn:=Tryz.f27) (by kernel_rfl) fun _=>rfl
 | n+1=>mk n [(58,.lp [.r 3 .I,.r 4 .I] 0 [.r 3 .I]),(1865,.jn [.r 5 .I] false),(3730,.jn [.r 25 .B] false)] (e:=ajW (n+1)) (inn:=some) (.c (aj2 n) (.c (Rz n) .n)) @Tryz.func27
theorem Ck n:EkO (aeC n):=mk n [(3,.jn [.r 2 .B] false)] (e:=aeC (n)) (inn:=some) (.c (yR n) (.c (aj2 n) .n)) @Tryz.func10
theorem Xv n:EkO (Xf n):=mk n [(3,.jn [.r 2 .B] false)] (e:=Xf (n)) (inn:=some) .n @Tryz.func184
theorem ain n:EkO (Ug n):=mk n [(26,.jn [.r 4 .B] false)] (e:=Ug (n)) (inn:=some) .n @Tryz.func185
theorem aoP n:EkO (Za n):=mk n [(3,.jn [.r 2 .B] false)] (e:=Za (n)) (inn:=some) .n @Tryz.func268
theorem alC n:EkO (Wt n):=mk n [(3,.jn [.r 2 .B] false)] (e:=Wt (n)) (inn:=some) (.c (Xv n) (.c (aoP n) .n)) @Tryz.func186
theorem qW n:EkO (Mj n):=mk n [(6,.jn [.r 20 .B] false),(58,.lp [.r 23 .I] 0 [])] (e:=Mj (n)) (inn:=some) (.c (Xv n) (.c (ain n) (.c (alC n) .n))) @Tryz.func107
theorem EO n:EkO (tJ n):=mk n [(3,.jn [.r 4 .B] false)] (e:=tJ (n)) (inn:=some) .n @Tryz.func319
theorem DW n:EkO (rV n):=mk n [] (e:=rV (n)) (inn:=some) (.c (EO n) .n) @Tryz.func269
theorem GA n:EkO (G7 n):=mk n [] (e:=G7 (n)) (inn:=some) (.c (DW n) .n) @Tryz.func187
theorem abj n:EkO (Mt n):=mk n [] (e:=Mt (n)) (inn:=some) (.c (GA n) (.c (qW n) .n)) @Tryz.func108
theorem GR n:EkO (Gq n):=mk n [(7,.jn [.r 4 .B] false)] (e:=Gq (n)) (inn:=some) .n @Tryz.func137
theorem fB:∀n,EkO (ug n)∧EkO (qD n)∧EkO (uj n)∧EkO (rE n)
 | 0=>⟨iR (fn:=Tryz.f320) (by kernel_rfl) fun _=>rfl,iR (fn:=Tryz.f270) (by kernel_rfl) fun _=>rfl,iR (fn:=Tryz.f191) (by kernel_rfl) fun _=>rfl,iR (fn:=Tryz.f274) (by kernel_rfl) fun _=>rfl⟩
 | n+1=>⟨mk n [(26,.lp [.r 8 .I,.o 1 (.bx [(0,.lf (.n .i64))])] 0 [.o 1 (.bx [(0,.lf (.n .i64))])])] (e:=ug (n+1)) (inn:=some) (.c (fB n).2.2.2 .n) @Tryz.func320,
  mk n [] (e:=qD (n+1)) (inn:=some) (.c (fB n).1 .n) @Tryz.func270,
  mk n [(15,.jn [.r 9 .I] true),(62,.jn [.r 45 .B] false)] (e:=uj (n+1)) (inn:=some) (.c (GR n) (.c (qW n) (.c (fB n).2.1 .n))) @Tryz.func191,
  mk n [] (e:=rE (n+1)) (inn:=some) (.c (fB n).2.2.1 .n) @Tryz.func274⟩
theorem Px n:EkO (uj n):=(fB n).2.2.1
theorem sG n:EkO (Pt n):=mk n [] (e:=Pt (n)) (inn:=some) (.c (Px n) .n) @Tryz.func113
theorem dW:∀n,EkO (rA n)∧EkO (oM n)∧EkO (Dj n)∧EkO (zT n)
 | 0=>⟨iR (fn:=Tryz.f320) (by kernel_rfl) fun _=>rfl,iR (fn:=Tryz.f270) (by kernel_rfl) fun _=>rfl,iR (fn:=Tryz.f188) (by kernel_rfl) fun _=>rfl,iR (fn:=Tryz.f271) (by kernel_rfl) fun _=>rfl⟩
 | n+1=>⟨mk n [(26,.lp [.r 8 .I] 0 [])] (e:=rA (n+1)) (inn:=some) (.c (dW n).2.2.2 .n) @Tryz.func320,
  mk n [] (e:=oM (n+1)) (inn:=some) (.c (dW n).1 .n) @Tryz.func270,
  mk n [(3,.jn [.r 4 .B] false)] (e:=Dj (n+1)) (inn:=some) (.c (dW n).2.1 .n) @Tryz.func188,
  mk n [] (e:=zT (n+1)) (inn:=some) (.c (dW n).2.2.1 .n) @Tryz.func271⟩
theorem aby n:EkO (Dj n):=(dW n).2.2.1
theorem X7 n:EkO (Hw n):=mk n [(3,.jn [.r 2 .B] false)] (e:=Hw (n)) (inn:=some) (.c (sG n) (.c (aby n) .n)) @Tryz.func109
theorem NQ:∀n,EkO (OV n)
 | 0=>iR (fn:=Tryz.f193) (by kernel_rfl) fun _=>rfl
 | n+1=>mk n [(3,.jn [.o 0 (.mp .b)] false),(30,.lp [.r 15 .I,.o 0 (.mp .b),.o 1 .dead] 0 [.o 0 (.mp .b),.o 1 .dead])] (e:=OV (n+1)) (inn:=some) (.c (NQ n) .n) @Tryz.func193
theorem adR n:EkO (OC n):=mk n [] (e:=OC (n)) (inn:=some) .n @Tryz.func195
theorem Du n:EkO (Mq n):=mk n [] (e:=Mq (n)) (inn:=some) (.c (sG n) (.c (NQ n) (.c (adR n) (.c (Ry n) .n)))) @Tryz.func115
theorem Sj n:EkO (Fa n):=mk n [] (e:=Fa (n)) (inn:=some) .n @Tryz.func273
theorem LD n:EkO (zG n):=mk n [(26,.lp [.r 8 .I] 0 [])] (e:=zG (n)) (inn:=some) (.c (Sj n) .n) @Tryz.func196
theorem Hl n:EkO (vY n):=mk n [] (e:=vY (n)) (inn:=some) (.c (LD n) .n) @Tryz.func272
theorem XK n:EkO (Hz n):=mk n [] (e:=Hz (n)) (inn:=some) (.c (Hl n) .n) @Tryz.func190
theorem XP n:EkO (Ib n):=mk n [] (e:=Ib (n)) (inn:=some) (.c (XK n) .n) @Tryz.func189
theorem MN n:EkO (Al n):=mk n [(26,.lp [.r 8 .I] 0 [])] (e:=Al (n)) (inn:=some) (.c (XP n) .n) @Tryz.func192
theorem Jr n:EkO (xk n):=mk n [] (e:=xk (n)) (inn:=some) (.c (MN n) .n) @Tryz.func114
theorem abL n:EkO (LV n):=mk n [] (e:=LV (n)) (inn:=some) (.c (Du n) (.c (Jr n) .n)) @Tryz.func110
theorem abv n:EkO (Mc n):=mk n [(58,.lp [.w (.own .s),.r 3 (.own 1),.r 11 .I] 0 [.w (.own .s),.r 3 (.own 1)]),(122,.lp [.w (.own .s),.r 3 (.own 2),.r 27 .I,.o 0 .dead,.o 1 .dead] 2 [.w (.own .s),.r 3 (.own 2),.o 0 .dead,.o 1 .dead])] (e:=Mc (n)) (inn:=some) .n @Tryz.func112
theorem abl n:EkO (Mi n):=mk n [(58,.lp [.r 9 .I,.o 0 (.mp .b)] 0 [.o 0 .dead]),(7474,.jn [.r 15 .B] false)] (e:=Mi (n)) (inn:=some) .n @Tryz.func111
theorem Dl n:EkO (LX n):=mk n [(6,.jn [.r 18 .B] false),(58,.lp [.r 22 .I] 0 []),(122,.lp [.r 51 .I] 4 []),(7474,.jn [.r 35 .B] false),(7833,.jn [.r 71 .B] false),(29902,.lp [.r 39 .I,.o 1 .dead] 2 [.o 1 .dead])] (e:=LX (n)) (inn:=some) (.c (qW n) (.c (abj n) (.c (X7 n) (.c (abL n) (.c (abv n) (.c (abl n) .n)))))) @Tryz.func53
theorem QJ n:EkO (QC n):=mk n [(58,.lp [.r 16 .I,.o 0 .dead] 0 [.o 0 .dead]),(3737,.jn [.r 48 .B] false)] (e:=QC (n)) (inn:=some) .n @Tryz.func54
theorem ai4 n:EkO (TK n):=mk n [] (e:=TK (n)) (inn:=some) .n @Tryz.func197
theorem Hr n:EkO (wh n):=mk n [(26,.lp [.r 8 .I] 0 [])] (e:=wh (n)) (inn:=some) (.c (ai4 n) .n) @Tryz.func196
theorem Y8 n:EkO (YX n):=mk n [] (e:=YX (n)) (inn:=some) (.c (Hr n) .n) @Tryz.func117
theorem afQ n:EkO (Q0 n):=mk n [] (e:=Q0 (n)) (inn:=some) .n @Tryz.func96
theorem abw n:EkO (Ml n):=mk n [] (e:=Ml (n)) (inn:=some) (.c (afQ n) .n) @Tryz.func46
theorem apd n:EkO (YM n):=mk n [(58,.lp [.r 8 .I] 0 [])] (e:=YM (n)) (inn:=some) .n @Tryz.func45
theorem kW:∀n,EkO (qL n)∧EkO (Jw n)
 | 0=>⟨iR (fn:=Tryz.f48) (by kernel_rfl) fun _=>rfl,iR (fn:=Tryz.f19) (by kernel_rfl) fun _=>rfl⟩
 | n+1=>⟨mk n [(26,.lp [.r 13 .I] 0 [])] (e:=qL (n+1)) (inn:=some) (.c (kW n).2 .n) @Tryz.func48,
  mk n [] (e:=Jw (n+1)) (inn:=some) (.c (abw n) (.c (abM n) (.c (apd n) (.c (kW n).1 .n)))) @Tryz.func19⟩
theorem ow n:EkO (Jw n):=(kW n).2
theorem JG:∀n,EkO (Vl n)∧EkO (NI n)
 | 0=>⟨iR (fn:=Tryz.f56) (by kernel_rfl) fun _=>rfl,iR (fn:=Tryz.f118) (by kernel_rfl) fun _=>rfl⟩
 | n+1=>⟨mk n [(234,.jn [.r 8 .B] false),(942,.jn [.r 8 .B] false),(7549,.jn [.r 8 .B] false),(15102,.jn [.r 8 .B] false),(120828,.jn [.r 161 .B] false),(966634,.lp [.r 11 .I] 1 [])] (e:=Vl (n+1)) (inn:=some) (.c (Y8 n) (.c (JG n).2 (.c (ow n) .n))) @Tryz.func56,
  mk n [(26,.lp [.r 11 .I] 0 [])] (e:=NI (n+1)) (inn:=some) (.c (JG n).1 .n) @Tryz.func118⟩
theorem afb n:EkO (Vl n):=(JG n).1
end
section
open Go
def YZ(c:Carrier)s:=cond (decide (s<1)) true (cond (decide (8<s)) true (cond (decide (0<(c.elems.length:Int))) (s !=(c.elems.length:Int)) false))
def Gz:List Carrier→List Int→Bool
 | c::cs,s::ss=>!YZ c s&&Gz cs ss
 | _,_=>true
def rQ(env:Env)sz:=!(sz.length:Int)!=env.carriers.length&&Gz env.carriers sz
theorem Rn{env}{sz}(h:rQ env sz=true):sz.length=env.carriers.length:=by
 unfold rQ at h;simp only[qAa,qAF,bne_eq_false_iff_eq] at h;omega
def Df:List Val→Bool
 | a::b::r=>!decide (0≤bH a b)&&Df (b::r)
 | _=>true
def aaF(v:Val):=v.kind==1&&(v.name==[]&&((v.kids.length:Int)==0&&(decide ((-1000000000)≤v.n)&&decide (v.n≤1000000000))))
def Zc(v:Val):=v.kind==2&&(v.name==[]&&((v.kids.length:Int)==0&&(v.n==0 ||v.n==1)))
def ahT(env:Env)(sz:List Int)nm:=(idx sz (gI (fun c=>c.name==nm) 0 env.carriers)).getD 0
def RD(env:Env)sz(nm:Str)(v:Val):=v.kind==3&&(v.name==nm&&((v.kids.length:Int)==0&&(decide (0≤v.n)&&decide (v.n<ahT env sz nm))))
mutual
def hasB(env:Env)(sz:List Int):Ty→Val→Bool
 | .mk k nm ks,v=>cond (k==1) (aaF v) (cond (k==2) (Zc v) (cond (k==3) (RD env sz nm v) (cond (k==4) (v.kind==4&&(v.n==0&&(v.name==[]&&((v.kids.length:Int)==2&&RX env sz ks v.kids))))
   ((v.kind==5&&(v.n==0&&(v.name==[]&&!(decide (256<(v.kids.length:Int))))))&&(as9 env sz ks v.kids&&Df v.kids)))))
def RX(env:Env)(sz:List Int):List Ty→List Val→Bool
 | [],_=>true
 | t::ts,vs=>match vs with
  | []=>true
  | v::vs=>hasB env sz t v&&RX env sz ts vs
def as9(env:Env)(sz:List Int):List Ty→List Val→Bool
 | [],_=>true
 | t::_,vs=>vs.all fun v=>hasB env sz t v
end
def O1(c:Int):=decide (97≤c)&&decide (c≤122) ||decide (65≤c)&&decide (c≤90)
def ZO(c:Int):=decide (48≤c)&&decide (c≤57)
def Ac c:=O1 c ||(ZO c ||c==95)
theorem UE n c:DV n c=some (O1 c):=by
 unfold DV O1;cases decide (97≤c)<;>cases decide (c≤122)<;>cases decide (65≤c)<;>rfl
theorem aad n c:uR n c=some (O1 c):=by
 unfold uR O1;cases decide (97≤c)<;>cases decide (c≤122)<;>cases decide (65≤c)<;>rfl
theorem ak5 n c:M0 n c=some (ZO c):=by
 unfold M0 ZO;cases decide (48≤c)<;>rfl
theorem aqv n c:A9 n c=some (ZO c):=by
 unfold A9 ZO;cases decide (48≤c)<;>rfl
theorem ai7 n c:JX n c=some (Ac c):=by
 unfold JX Ac;rw[UE,ak5];cases O1 c<;>cases ZO c<;>rfl
theorem ank p0 l:Ev (fun n=>J7 n p0 l) (l.any fun x=>x==p0):=by
 unfold J7;have h:=qH l (fun n k i=>amr n p0 l k i) (fun _ x=>some (x==p0)) (fun x=>x==p0) true (fun n k i=>rfl) (fun x _=>Ev.ret _);refine Ev.bind h ?_;cases l.any fun x=>x==p0
 ·exact Ev.ret _
 ·exact Ev.ret _
def kws:List Str:=[[116,114,117,101],[102,97,108,115,101],[110,111,116],[111,114],[102,111,114,97,108,108],[101,120,105,115,116,115],[105,110],[110,111,116,105,110],[115,117,98],[109,111,100],[102,117,110],[99,97,114,100],[109,105,110],[109,97,120],[100,111,109],[114,97,110],[80,79,87],[105,110,116],[98,111,111,108],[115,101,116],[112,97,105,114]]
def kwB s:=kws.any fun x=>x==s
theorem ale s:Ev (fun n=>F9 n s) (kwB s):=by
 unfold F9;exact Ev.bind (ank s _) (Ev.ret _)
theorem chainB a b:cond a (some a) (some b)=some (a ||b):=by cases a<;>rfl
theorem aeS n s:Gt n s=some (kwB s):=by
 unfold Gt;simp only[chainB,qAb];have h:∀b:Bool,cond b (some true) (some false)=some b:=fun b=>by cases b<;>rfl
 rw[h];simp only[kwB,kws,qDm,List.any_nil,qDU];simp only[BEq.comm (a:=s)]
def ident(s:Str):=match s with
 | []=>false
 | c::cs=>decide (cs.length<16)&&(O1 c.toNat&&(!(kwB (c::cs))&&cs.all fun c=>Ac (c.toNat:Int)))
theorem su{α:Type} p (l:List α):l.any (fun x=>!p x)=!l.all p:=by
 induction l with
 | nil=>rfl
 | cons x l ih=>simp[ih]
theorem pI s:Ev (fun n=>fE n s) (ident s):=by
 unfold fE;cases s with
 | nil=>exact Ev.of fun n=>rfl
 | cons c cs=>
  have hloop:Ev (fun n=>A8 n (c::cs) n 0) (cond ((c::cs).any fun c=>!(Ac (c.toNat:Int))) (.rt false) (.nx ())):=by
   refine qH (c::cs) (fun n k i=>A8 n (c::cs) k i) (fun _ x=>some (!(Ac (x.toNat:Int)))) (fun x=>!(Ac (x.toNat:Int))) false (fun n k i=>?_) (fun x _=>Ev.ret _);show cond _ _ _=_;congr 1;rw[NS];cases idx (c::cs) i with
   | none=>rfl
   | some x=>
    simp only[qAy,qAb,ai7];rfl
  have hs0:mZ (c::cs) 0=some (c.toNat:Int):=by rw[NS];rfl
  have hne:((c::cs)==([]:Str))=false:=by simp
  simp only[hne,cond_false,hs0,qAb,UE,aeS];by_cases hl:cs.length<16
  ·have h1:decide (16<((c::cs).length:Int))=false:=decide_eq_false (by simp;omega);simp only[h1,cond_false,ident,decide_eq_true hl,qAz];cases hlet:O1 (c.toNat:Int) with
   | false=>exact Ev.ret _
   | true=>
    cases hk:kwB (c::cs) with
    | true=>exact Ev.ret _
    | false=>
     simp only[qAC,cond_false,qAb,qAz,qBe];refine Ev.bind hloop ?_;rw[su];simp only[qBK,Ac,hlet,qCA,qAz];cases cs.all fun c=>O1 (c.toNat:Int) ||(ZO (c.toNat:Int) ||(c.toNat:Int)==95)
     ·exact Ev.ret _
     ·exact Ev.ret _
  ·have h1:decide (16<((c::cs).length:Int))=true:=decide_eq_true (by simp;omega);simp only[h1,cond_true,qAb,ident,decide_eq_false hl,qBs];exact Ev.ret _
theorem oC s:Ev (fun n=>gN n s) (ident s):=by
 unfold gN;cases s with
 | nil=>exact Ev.of fun n=>rfl
 | cons c cs=>
  have hloop:Ev (fun n=>EH n (c::cs) n 1) (cond (cs.any fun c=>!(Ac (c.toNat:Int))) (.rt false) (.nx ())):=by
   refine afz (c::cs) (fun n k i=>EH n (c::cs) k i) (fun _ x=>some (!(Ac (x.toNat:Int)))) (fun x=>!(Ac (x.toNat:Int))) false (fun n k i=>?_) (fun x _=>Ev.ret _) [c] cs rfl;show cond _ _ _=_;congr 1;rw[NS];cases idx (c::cs) i with
   | none=>rfl
   | some x=>
    simp only[qAy,qAb,aad,aqv,Ac];cases O1 (x.toNat:Int)<;>cases ZO (x.toNat:Int)<;>rfl
  have hs0:mZ (c::cs) 0=some (c.toNat:Int):=by rw[NS];rfl
  have hne:decide (((c::cs).length:Int)<1)=false:=decide_eq_false (by simp;omega);simp only[hne,cond_false,hs0,qAb,aad];by_cases hl:cs.length<16
  ·have h1:decide (16<((c::cs).length:Int))=false:=decide_eq_false (by simp;omega);simp only[h1,cond_false,ident,decide_eq_true hl,qAz];cases hlet:O1 (c.toNat:Int) with
   | false=>exact Ev.ret _
   | true=>
    simp only[qAC,cond_false,qAz];refine Ev.bind (a:=kwB (c::cs)) (Ev.bind (ale _) (Ev.ret _)) ?_;cases hk:kwB (c::cs) with
    | true=>exact Ev.ret _
    | false=>
     simp only[cond_false,qAz,qBe];refine Ev.bind hloop ?_;rw[su];cases cs.all fun c=>Ac (c.toNat:Int)
     ·exact Ev.ret _
     ·exact Ev.ret _
  ·have h1:decide (16<((c::cs).length:Int))=true:=decide_eq_true (by simp;omega);simp only[h1,cond_true,qAb,ident,decide_eq_false hl,qBs];exact Ev.ret _
def abd(s:Str):Str:=if s.getLast? =some 39 then s.dropLast else s
theorem acZ{α}(s:List α) k (h:k≤s.length):jE s 0 k=some (s.take k):=by
 unfold jE;rw[if_pos (by omega)];simp
theorem aln n s (hs:s.length≤9223372036854775807):strings_TrimSuffix n s [39]=some (abd s):=by
 unfold strings_TrimSuffix mJ ny;rcases qDJ s with rfl | ⟨t,c,rfl⟩
 ·rfl
 ·have hl:((t++[c]).length:Int) - (([39]:Str).length:Int)=(t.length:Int):=by simp
  have hd:decide ((([39]:Str).length:Int)≤((t++[c]).length:Int))=true:=decide_eq_true (by simp;omega);simp only[qDK] at hs⊢;rw[hl,hd,wrap64 (by omega) (by simp at hs;omega)];have h1:jE (t++[c]) (t.length:Int) ((t++[c]).length:Int)=some [c]:=by
   unfold jE;rw[if_pos (by simp;omega)];simp
  have h2:jE (t++[c]) 0 (t.length:Int)=some t:=by rw[acZ _ _ (by simp)];simp
  simp only[cond_true,h1,h2,qAb];unfold abd;rw[qDQ,qDR];by_cases hc:c=39
  ·subst hc;simp
  ·have:(([c]:Str)==[39])=false:=by simp[hc]
   rw[this,if_neg (by simpa using hc)];rfl
def named s:=ident (abd s)
theorem acg s (hs:s.length≤9223372036854775807):Ev (fun n=>uS n s) (named s):=by
 unfold uS;simp only[aln _ s hs,qAb];exact Ev.bind (pI _) (Ev.ret _)
theorem auK{s}(h:ident s=true):∀c∈s,Ac c.toNat=true:=by
 cases s with
 | nil=>cases h
 | cons c cs=>
  simp only[ident,qAa,decide_eq_true_eq,qAE] at h;intro x hx;rcases qAg.1 hx with rfl | hx
  ·simp[Ac,h.2.1]
  ·exact h.2.2.2 x hx
theorem acJ s:Ev (fun n=>Jo n s) (named s):=by
 unfold Jo;have hp:Ev (fun n=>Ld n s) (decide (s.getLast? =some 39)&&ident s.dropLast):=by
  unfold Ld;rcases qDJ s with rfl | ⟨t,c,rfl⟩
  ·exact Ev.ret _
  ·simp only[qDK,qDQ,qDR];cases t with
   | nil=>
    have h1:decide (1<(([]++[c]:Str).length:Int))=false:=rfl;simp only[h1,cond_false,qAb];have:ident ([]:Str)=false:=rfl;rw[this,qCq];exact Ev.ret _
   | cons d t=>
    have h1:decide (1<((d::t++[c]:Str).length:Int))=true:=decide_eq_true (by simp;omega);have hlen:(((d::t++[c]:Str).length:Int) - 1)=((d::t).length:Int):=by simp
    have h2:mZ (d::t++[c]) (((d::t++[c]:Str).length:Int) - 1)=some (c.toNat:Int):=by
     rw[hlen,NS,show(d::t++[c]:Str)=(d::t)++c::[] from rfl,gF];rfl
    have h3:jE (d::t++[c]) 0 (((d::t++[c]:Str).length:Int) - 1)=some (d::t):=by rw[hlen,acZ _ _ (by simp)];simp
    simp only[h1,cond_true,h2,h3,qAb];by_cases hc:c=39
    ·subst hc;simp only[show((((39:UInt8).toNat:Nat):Int)==39)=true from rfl,cond_true,decide_true,qAz];exact Ev.bind (Ev.bind (oC _) (Ev.ret _)) (Ev.ret _)
    ·have e:(((c.toNat:Nat):Int)==39)=false:=by
      apply beq_false_of_ne;intro h;apply hc;have:c.toNat=39:=by omega
      exact UInt8.toNat_inj.1 this
     rw[e];have e2:decide (some c=some (39:UInt8))=false:=decide_eq_false (by simpa using hc);simp only[cond_false,qAb,e2,qBs];exact Ev.ret _
 refine Ev.bind (a:=named s) ?_ (Ev.ret _);refine Ev.bind (oC s) ?_;unfold named abd;by_cases hq:s.getLast? =some 39
 ·have hi:ident s=false:=by
   cases h:ident s with
   | false=>rfl
   | true=>
    have:=auK h 39 (qDS hq);cases this
  rw[hi,if_pos hq];rw[decide_eq_true hq,qAz] at hp;exact Ev.bind hp (Ev.ret _)
 ·rw[if_neg hq];rw[decide_eq_false hq,qBs] at hp;cases ident s
  ·exact Ev.bind hp (Ev.ret _)
  ·exact Ev.ret _
theorem Ty.ind{P:Ty→Prop}(h:∀k n ks,(∀t∈ks,P t)→P (.mk k n ks)) t:P t:=by
 match t with
 | .mk k n ks=>exact h k n ks fun u _=>Ty.ind h u
termination_by SizeOf.sizeOf t
decreasing_by
 rename_i hu;have:=qCN hu;simp only[Ty.mk.sizeOf_spec];omega
def iX(k:Int)nm(len)(d:Int):=
 !(k==2&&decide (1<d))&&((((k==1 ||(k==2 ||k==3))&&len==0) ||((k==4&&len==2) ||(k==5&&len==1)))&&cond (k==3) (ident nm) (nm==[]))
mutual
def pf:Ty→Int→Int→Bool×Int
 | .mk k nm ks,d,c=>cond (decide (c+1≤16)&&decide (d≤6)&&iX k nm ks.length d) (nP ks (d+1) (c+1)) (false,c+1)
def nP:List Ty→Int→Int→Bool×Int
 | [],_,c=>(true,c)
 | t::ts,d,c=>cond (pf t d c).1 (nP ts d (pf t d c).2) (false,(pf t d c).2)
end
mutual
theorem aa6:∀t d c,(pf t d c).1=true→c<(pf t d c).2∧(pf t d c).2≤16
 | .mk k nm ks,d,c,h=>by
  simp only[pf] at h⊢;cases hb:((decide (c+1≤16)&&decide (d≤6))&&iX k nm ks.length d) with
  | false=>rw[hb] at h;cases h
  | true=>
   rw[hb] at h;simp only[cond_true] at h⊢;simp only[qAa,decide_eq_true_eq] at hb;have:=anN ks (d+1) (c+1) h;omega
theorem anN:∀(ts:List Ty) (d c:Int),(nP ts d c).1=true→c≤(nP ts d c).2∧(c≤16→(nP ts d c).2≤16)
 | [],_,c,_=>by simp[nP]
 | t::ts,d,c,h=>by
  simp only[nP] at h⊢;cases hb:(pf t d c).1 with
  | false=>rw[hb] at h;cases h
  | true=>
   rw[hb] at h;simp only[cond_true] at h⊢;have h1:=aa6 t d c hb;have h2:=anN ts d _ h;exact⟨by omega,fun _=>h2.2 h1.2⟩
end
theorem ayw n c d (h0:0≤c)(h1:c≤16):kg n c 16 6 d=some (decide (c+1≤16)&&decide (d≤6),c+1):=by
 unfold kg;rw[wrap64 (by omega) (by omega)];cases decide (c+1≤16)<;>rfl
def aDD t:=∀d c:Int,1≤d→d≤7→0≤c→c≤16→Ev (fun n=>gu n c 16 6 t d (decide (1<d))) (pf t d c)
theorem arT d:∀ts i c,0≤i→(∃j,0≤j∧(nP ts d c).1=false∧jO (τ:=Int) (fun i x s=>cond (!(pf x d s).1) (.rt (i,(pf x d s).2)) (.nx (pf x d s).2)) (fun s=>s) i ts c=.rt (j,(nP ts d c).2))∨(nP ts d c).1=true∧jO (ρ:=Int×Int) (fun i x s=>cond (!(pf x d s).1) (.rt (i,(pf x d s).2)) (.nx (pf x d s).2)) (fun s=>s) i ts c=.nx (nP ts d c).2
 | [],i,c,_=>.inr ⟨rfl,rfl⟩
 | t::ts,i,c,hi=>by
  simp only[nP,jO];cases hb:(pf t d c).1 with
  | false=>exact .inl ⟨i,hi,rfl,rfl⟩
  | true=>exact arT d ts (i+1) _ (by omega)
theorem awo ts (h:∀t∈ts,aDD t) d c (hd:1≤d)(hd6:d≤6)(h0:0≤c)(h1:c≤16):Ev (fun n=>dS n ts c 16 6 d) (!(nP ts (d+1) c).1,(nP ts (d+1) c).2):=by
 refine Ev.succ ?_;show Ev (fun n=>nV n _ _ _ _ ts c 16 6 d) _;unfold nV;have hloop:=Nt ts (fun n k i s=>Bz n (fun p0 p1 p2 p3 p4=>jT n p0 p1 p2 p3 p4) (fun p0 p1 p2 p3 p4=>dS n p0 p1 p2 p3 p4) (fun p0 p1 p2 p3 p4 p5=>gu n p0 p1 p2 p3 p4 p5) (fun p0 p1 p2 p3 p4=>eB n p0 p1 p2 p3 p4) ts 16 6 d k (i,s))
  (fun n i x s=>(eB n x s 16 6 d).bind fun x2=>cond x2.1 (some (.rt (i,x2.2))) (some (.nx x2.2))) (fun i x s=>cond (!(pf x (d+1) s).1) (.rt (i,(pf x (d+1) s).2)) (.nx (pf x (d+1) s).2)) (fun s=>s) (fun _ _ s=>0≤s∧s≤16)
  (fun n k i s=>by
   show cond _ _ _=_;congr 1;congr 1;funext x;dsimp only;cases eB n x s 16 6 d with
   | none=>rfl
   | some b=>obtain⟨b,e⟩:=b;cases b<;>rfl)
  (fun i x suf s hx hs=>⟨by
   have hfit:Ev (fun n=>eB n x s 16 6 d) (!(pf x (d+1) s).1,(pf x (d+1) s).2):=by
    refine Ev.succ ?_;show Ev (fun n=>oz n _ _ _ _ x s 16 6 d) _;unfold oz;have:=h x hx (d+1) s (by omega) (by omega) hs.1 hs.2;rw[decide_eq_true (show 1<d+1 by omega)] at this;rw[wrap64 (by omega) (by omega)];exact Ev.bind this (Ev.ret _)
   refine Ev.bind hfit ?_;cases(pf x (d+1) s).1
   ·exact Ev.ret _
   ·exact Ev.ret _,fun s' he=>by
    cases hb:(pf x (d+1) s).1 with
    | false=>rw[hb] at he;cases he
    | true=>
     rw[hb] at he;simp only[qAC,cond_false,LR.nx.injEq] at he;have:=aa6 x (d+1) s hb;omega⟩) (s0:=c) ⟨h0,h1⟩
 rcases arT (d+1) ts 0 c (qBP _) with⟨j,hj,hf,hr⟩ | ⟨ht,hr⟩
 ·rw[hr] at hloop;refine Ev.bind (a:=(j,(nP ts (d+1) c).2)) (Ev.succ ?_) ?_
  ·show Ev (fun n=>jm n _ _ _ _ ts c 16 6 d) _;unfold jm;exact Ev.bind hloop (Ev.ret _)
  ·rw[hf];simp only[decide_eq_true hj];exact Ev.ret _
 ·rw[hr] at hloop;refine Ev.bind (a:=(-1,(nP ts (d+1) c).2)) (Ev.succ ?_) ?_
  ·show Ev (fun n=>jm n _ _ _ _ ts c 16 6 d) _;unfold jm;exact Ev.bind hloop (Ev.ret _)
  ·rw[ht];exact Ev.ret _
theorem anV(len:Nat)(m:Nat):((len)!=(m:Int))=!len==m:=by
 rw[bne];congr 1;by_cases h:len=m
 ·subst h;simp
 ·rw[beq_false_of_ne h,beq_false_of_ne (by omega)]
theorem fits:∀t:Ty,aDD t:=Ty.ind fun k nm ks ih d c hd hd7 h0 h1=>by
 refine Ev.succ ?_;show Ev (fun n=>qN n _ _ _ _ c 16 6 (.mk k nm ks) d (decide (1<d))) _;unfold qN;simp only[ayw _ c d h0 h1,qAb,pf,Ty.kind,Ty.name,Ty.kids];cases hb:(decide (c+1≤16)&&decide (d≤6)) with
 | false=>exact Ev.ret _
 | true=>
  simp only[qAa,decide_eq_true_eq] at hb;have hk:=awo ks ih d (c+1) hd hb.2 (by omega) hb.1;simp only[qAC,cond_false,qAz]
  -- the end: the number of kids, the name, the kids
  have hend:∀m:Nat,Ev (fun n=>(((cond ((ks.length:Int)!=(m:Int)) (some true) (cond (k !=3) (some (!(nm==([]:Str)))) (some false))):Option Bool).bind fun(s2:Bool)=>(cond s2 (some (false,c+1)) ((dS n ks (c+1) 16 6 d).bind fun(x2:Bool×Int)=>some ((!x2.1),x2.2)))))
    (cond ((ks.length==m)&&cond (k==3) true (nm==[])) (nP ks (d+1) (c+1)) (false,c+1)):=fun m=>by
   rw[anV];cases ks.length==m with
   | false=>exact Ev.ret _
   | true=>
    simp only[qAC,cond_false,qAz,bne];have hkids:Ev (fun n=>(dS n ks (c+1) 16 6 d).bind fun(x2:Bool×Int)=>some ((!x2.1),x2.2)) (nP ks (d+1) (c+1)):=by
     refine Ev.bind hk ?_;simp only[qCr];exact Ev.ret _
    cases k==3 with
    | true=>exact hkids
    | false=>
     simp only[qBe,cond_true,qAb,cond_false];cases nm==([]:Str) with
     | false=>exact Ev.ret _
     | true=>exact hkids
  by_cases e1:k=1
  ·subst e1;have:=hend 0;simpa[iX] using this
  by_cases e2:k=2
  ·subst e2;cases hf:decide (1<d) with
   | true=>
    have:iX 2 nm ks.length d=false:=by simp[iX,hf]
    simp only[this,cond_false];exact Ev.of fun n=>by simp
   | false=>
    have:=hend 0;simpa[iX,hf] using this
  by_cases e3:k=3
  ·subst e3;simp only[show((3:Int)==1)=false from rfl,show((3:Int)==2)=false from rfl,show((3:Int)==3)=true from rfl,cond_false,cond_true];refine Ev.bind (a:=cond (ident nm) (.nx 0) (.rt (false,c+1))) (Ev.bind (pI nm) ?_) ?_
   ·cases ident nm
    ·exact Ev.ret _
    ·exact Ev.ret _
   ·cases hi:ident nm with
    | false=>
     have:iX 3 nm ks.length d=false:=by simp[iX,hi]
     rw[this];exact Ev.ret _
    | true=>
     have:=hend 0;simpa[iX,hi] using this
  by_cases e4:k=4
  ·subst e4;have:=hend 2;simpa[iX] using this
  by_cases e5:k=5
  ·subst e5;have:=hend 1;simpa[iX] using this
  ·have:iX k nm ks.length d=false:=by simp[iX,e1,e2,e3,e4,e5]
   rw[this];refine Ev.of fun n=>?_;have b1:=beq_false_of_ne e1;have b2:=beq_false_of_ne e2;have b3:=beq_false_of_ne e3;have b4:=beq_false_of_ne e4;have b5:=beq_false_of_ne e5;simp only[b1,b2,b3,b4,b5,cond_false,qAb,LR.el]
def eG t:=(pf t 1 0).1
theorem wH t:Ev (fun n=>mD n t) (eG t):=by
 unfold mD;have:=fits t 1 0 (by omega) (by omega) (by omega) (by omega);rw[show decide ((1:Int)<1)=false from rfl] at this;exact Ev.bind this (Ev.ret _)
def pt t d c:=cond (pf t d c).1 (pf t d c).2 (-1)
def aCl t:=∀d c:Int,1≤d→d≤7→0≤c→c≤16→Ev (fun n=>yj n t d c) (pt t d c)
theorem arG d:∀ts c,0≤c→gQ (τ:=Int) (fun x s=>cond (decide (pt x d s<0)) (.rt (-1)) (.nx (pt x d s))) (fun s=>s) ts c=cond (nP ts d c).1 (.nx (nP ts d c).2) (.rt (-1))
 | [],c,_=>rfl
 | t::ts,c,h0=>by
  simp only[nP,gQ];by_cases hb:(pf t d c).1=true
  ·have h1:=aa6 t d c hb;have h2:pt t d c=(pf t d c).2:=by simp only[pt,hb,cond_true]
   have h3:decide ((pf t d c).2<0)=false:=decide_eq_false (by omega);simp only[h2,h3,hb,cond_true,cond_false];exact arG d ts (pf t d c).2 (by omega)
  ·have hb':(pf t d c).1=false:=by simpa using hb
   have h2:pt t d c= -1:=by simp only[pt,hb',cond_false]
   have h3:decide (pt t d c<0)=true:=decide_eq_true (by omega);simp only[h3,hb',cond_true,cond_false]
theorem typed:∀t:Ty,aCl t:=Ty.ind fun k nm ks ih d c hd hd7 h0 h1=>by
 refine Ev.succ ?_;show Ev (fun n=>Lm n _ (.mk k nm ks) d c) _;unfold Lm;simp only[pt,pf,Ty.kind,Ty.name,Ty.kids];rw[wrap64 (by omega) (by omega)];by_cases hd6:d≤6
 case neg=>
  rw[decide_eq_true (show 6<d by omega),decide_eq_false hd6];simp only[qCq,qBs,cond_false];exact Ev.ret _
 by_cases hc:c+1≤16
 case neg=>
  rw[decide_eq_false (show ¬6<d by omega),decide_eq_true (show 16<c+1 by omega),decide_eq_false hc];simp only[qBs,cond_false,cond_true];exact Ev.ret _
 rw[decide_eq_false (show ¬6<d by omega),decide_eq_false (show ¬16<c+1 by omega),decide_eq_true hd6,decide_eq_true hc];simp only[cond_false,qAz];have hloop:=Ua ks (fun n k' i s=>JK n (fun p0 p1 p2=>yj n p0 p1 p2) (.mk k nm ks) d k' (s,i)) (fun n x s=>(yj n x (IntKind.wrap .i64 (d+1)) s).bind fun x2=>cond (decide (x2<0)) (some (.rt (-1))) (some (.nx x2)))
  (fun x s=>cond (decide (pt x (d+1) s<0)) (.rt (-1)) (.nx (pt x (d+1) s))) (fun s=>s) (fun _ s=>0≤s∧s≤16)
  (fun n k' i s=>by
   show cond _ _ _=_;congr 1;show(idx ks i).bind _=_;congr 1;funext x;dsimp only;cases yj n x (IntKind.wrap .i64 (d+1)) s with
   | none=>rfl
   | some b=>simp only[qAb];cases decide (b<0)<;>rfl)
  (fun x suf s hx hs=>⟨by
   rw[wrap64 (by omega) (by omega)];refine Ev.bind (ih x hx (d+1) s (by omega) (by omega) hs.1 hs.2) ?_;cases decide (pt x (d+1) s<0)
   ·exact Ev.ret _
   ·exact Ev.ret _,fun s' he=>by
    cases hb:decide (pt x (d+1) s<0) with
    | true=>rw[hb] at he;cases he
    | false=>
     rw[hb] at he;simp only[cond_false,LR.nx.injEq] at he;have hneg:¬pt x (d+1) s<0:=of_decide_eq_false hb;subst he;unfold pt at hneg⊢;cases hb2:(pf x (d+1) s).1 with
     | false=>rw[hb2] at hneg;simp at hneg
     | true=>have:=aa6 x (d+1) s hb2;simp only[cond_true];omega⟩) (s0:=c+1) ⟨by omega,hc⟩
 rw[arG _ _ _ (by omega)] at hloop;have hkids:Ev (fun n=>(JK n (fun p0 p1 p2=>yj n p0 p1 p2) (.mk k nm ks) d n (c+1,0)).bind (LR.el (fun(s5:Int)=>some s5) (fun r=>some r))) (cond (nP ks (d+1) (c+1)).1 (nP ks (d+1) (c+1)).2 (-1)):=by
  refine Ev.bind hloop ?_;cases(nP ks (d+1) (c+1)).1
  ·exact Ev.ret _
  ·exact Ev.ret _
 have hend:∀m:Nat,Ev (fun n=>(((cond ((ks.length:Int)!=(m:Int)) (some true) (cond (k==3) ((gN n nm).bind fun(x3:Bool)=>(cond (!x3) (some true) (cond (k !=3) (some (!(nm==([]:Str)))) (some false)))) (cond (k !=3) (some (!(nm==([]:Str)))) (some false)))):Option Bool).bind fun(s3:Bool)=>(cond s3 (some (-1)) ((JK n (fun p0 p1 p2=>yj n p0 p1 p2) (.mk k nm ks) d n (c+1,0)).bind (LR.el (fun(s5:Int)=>some s5) (fun r=>some r))))))
   (cond ((ks.length==m)&&cond (k==3) (ident nm) (nm==[])) (cond (nP ks (d+1) (c+1)).1 (nP ks (d+1) (c+1)).2 (-1)) (-1)):=fun m=>by
  rw[anV];cases ks.length==m with
  | false=>exact Ev.ret _
  | true=>
   simp only[qAC,cond_false,qAz,bne];cases k==3 with
   | true=>
    simp only[cond_true,qAC,cond_false];refine Ev.bind (a:=!(ident nm)) (Ev.bind (oC nm) ?_) ?_
    ·cases ident nm
     ·exact Ev.ret _
     ·exact Ev.ret _
    ·cases ident nm
     ·exact Ev.ret _
     ·exact hkids
   | false=>
    simp only[cond_false,qBe,cond_true,qAb];cases nm==([]:Str) with
    | false=>exact Ev.ret _
    | true=>exact hkids
 have hpair:∀b:Bool,(cond (cond b (nP ks (d+1) (c+1)) (false,c+1)).1 (cond b (nP ks (d+1) (c+1)) (false,c+1)).2 (-1):Int)=cond b (cond (nP ks (d+1) (c+1)).1 (nP ks (d+1) (c+1)).2 (-1)) (-1):=fun b=>by cases b<;>rfl
 rw[hpair];by_cases e1:k=1
 ·subst e1;have:=hend 0;simpa[iX] using this
 by_cases e2:k=2
 ·subst e2;cases hf:decide (1<d) with
  | true=>
   have:iX 2 nm ks.length d=false:=by simp[iX,hf]
   rw[this];exact Ev.of fun n=>by simp
  | false=>
   have:=hend 0;simpa[iX,hf] using this
 by_cases e3:k=3
 ·subst e3;have:=hend 0;simpa[iX] using this
 by_cases e4:k=4
 ·subst e4;have:=hend 2;simpa[iX] using this
 by_cases e5:k=5
 ·subst e5;have:=hend 1;simpa[iX] using this
 ·have:iX k nm ks.length d=false:=by simp[iX,e1,e2,e3,e4,e5]
  rw[this];refine Ev.of fun n=>?_;have b1:=beq_false_of_ne e1;have b2:=beq_false_of_ne e2;have b3:=beq_false_of_ne e3;have b4:=beq_false_of_ne e4;have b5:=beq_false_of_ne e5;simp only[b1,b2,b3,b4,b5,cond_false,qAb,LR.el]
theorem Gb t:Ev (fun n=>oZ n t) (eG t):=by
 unfold oZ;refine Ev.bind (typed t 1 0 (by omega) (by omega) (by omega) (by omega)) ?_;unfold pt eG;cases hb:(pf t 1 0).1 with
 | false=>exact Ev.ret _
 | true=>
  have:=aa6 t 1 0 hb;simp only[cond_true];rw[decide_eq_true (by omega)];exact Ev.ret _
theorem Yc{α σ τ ρ}(f:α→σ→σ)(fin:σ→τ):∀l s,gQ (ρ:=ρ) (fun x s=>.nx (f x s)) fin l s=.nx (fin (l.foldl (fun s x=>f x s) s))
 | [],_=>rfl
 | x::xs,s=>Yc f fin xs (f x s)
theorem qO{α σ τ ρ} l (L:Nat→Nat→Int→σ→Option (LR τ ρ))(step:Nat→α→σ→Option σ)(f:α→σ→σ)(fin:σ→τ)(I:List α→σ→Prop)
  (hL:∀n k i s,L n (k+1) i s=cond (decide (i<(l.length:Int))) ((idx l i).bind fun x=>(step n x s).bind fun s'=>L n k (i+1) s') (some (.nx (fin s))))
  (hI:∀x suf s,x∈l→I (x::suf) s→Ev (fun n=>step n x s) (f x s)∧I suf (f x s)) {s0} (h0:I l s0):Ev (fun n=>L n n 0 s0) (.nx (fin (l.foldl (fun s x=>f x s) s0))):=by
 rw[←Yc f fin];refine Ua l L (fun n x s=>(step n x s).bind fun s'=>some (.nx s')) (fun x s=>.nx (f x s)) fin I (fun n k i s=>?_) (fun x suf s hx hs=>?_) h0
 ·rw[hL];congr 1;congr 1;funext x;cases step n x s<;>rfl
 ·obtain⟨h1,h2⟩:=hI x suf s hx hs;exact⟨Ev.bind h1 (Ev.ret _),fun s' h=>by cases h;exact h2⟩
theorem ajo{α ρ} l (L:Nat→Nat→Int→Option (LR Unit ρ))(step:Nat→α→Option (LR Unit ρ)) p r
  (hL:∀n k i,L n (k+1) i=cond (decide (i<(l.length:Int))) ((idx l i).bind fun x=>(step n x).bind (LR.el (fun _=>L n k (i+1)) (fun r=>some (.rt r)))) (some (.nx ())))
  (hp:∀x∈l,Ev (fun n=>step n x) (cond (p x) (.rt r) (.nx ()))):Ev (fun n=>L n n 0) (cond (l.any p) (.rt r) (.nx ())):=by
 have:=Ua l (fun n k i (_:Unit)=>L n k i) (fun n x _=>step n x) (fun x _=>cond (p x) (.rt r) (.nx ())) (fun _=>()) (fun _ _=>True)
  (fun n k i s=>by rw[hL]) (fun x suf s hx _=>⟨hp x hx,fun _ _=>trivial⟩) (s0:=()) trivial
 rw[QG] at this;exact this
theorem qY{α}{b}{l ys:List α}(h:l.length+ys.length≤1000000)(hb:b≤1000):app b l ys=some (l++ys):=by
 unfold app;have:=qDc h hb;rw[if_pos ⟨by omega,by omega⟩]
theorem Vz{α:Type}:∀(l s:List α),l.foldl (fun s x=>s++[x]) s=s++l
 | [],s=>by simp
 | x::l,s=>by simp[Vz l]
theorem Kz{α} k:dw ([]:List (Str×α)) k=none:=rfl
theorem mU{α} p (m:List (Str×α)) k:dw (p::m) k=if p.1==k then some p.2 else dw m k:=by
 unfold dw;simp only[qBX];cases p.1==k<;>rfl
theorem Zd{α} m k (v:α) k':dw (jX m k v) k'=if k==k' then some v else dw m k':=by
 induction m with
 | nil=>rw[jX,mU]
 | cons p m ih=>
  simp only[jX];by_cases h:(p.1==k)=true
  ·have e:p.1=k:=by simpa using h
   rw[if_pos h,mU,mU,e];by_cases hk:(k==k')=true
   ·rw[if_pos hk,if_pos hk]
   ·rw[if_neg hk,if_neg hk,if_neg hk]
  ·rw[if_neg h,mU,ih,mU];by_cases hp:(p.1==k')=true
   ·rw[if_pos hp,if_pos hp,if_neg];intro h2;apply h;have e1:p.1=k':=by simpa using hp
    have e2:k=k':=by simpa using h2
    simp[e1,e2]
   ·rw[if_neg hp,if_neg hp]
theorem AU{α} m k (v:α):(jX m k v).length≤m.length+1:=by
 induction m with
 | nil=>simp[jX]
 | cons p m ih=>
  simp only[jX];split
  ·simp
  ·simp only[qAm];omega
theorem I4{α}{m}(h:m.length≤1000000) k (v:α):xG m k v=some (jX m k v):=by
 unfold xG;rw[if_pos (by omega)]
theorem mem_keys{α}(m:List (Str×α)) k:k∈m.map (·.1)↔∃v,dw m k=some v:=by
 induction m with
 | nil=>simp[Kz]
 | cons p m ih=>
  rw[mU];simp only[qAu,qAg,ih];by_cases h:(p.1==k)=true
  ·rw[if_pos h];have e:p.1=k:=by simpa using h
   exact⟨fun _=>⟨_,rfl⟩,fun _=>.inl e.symm⟩
  ·rw[if_neg h];have e:k≠p.1:=fun e=>h (by simp[e]);simp[e]
def fA{α:Type}(l:List (Str×α))(m:List (Str×α)):=l.foldl (fun m p=>jX m p.1 p.2) m
theorem MU{α}(l m:List (Str×α)):(fA l m).length≤m.length+l.length:=by
 induction l generalizing m with
 | nil=>simp[fA]
 | cons p l ih=>
  have h1:=ih (jX m p.1 p.2);have h2:=AU m p.1 p.2;simp only[fA,qBl,qAm] at h1⊢;omega
theorem Vh{α}(l l' m:List (Str×α)):fA (l++l') m=fA l' (fA l m):=by simp[fA]
theorem atp{α}(l m:List (Str×α)) k:k∈(fA l m).map (·.1)↔k∈m.map (·.1)∨k∈l.map (·.1):=by
 induction l generalizing m with
 | nil=>simp[fA]
 | cons p l ih=>
  have h1:=ih (jX m p.1 p.2);have h2:k∈(jX m p.1 p.2).map (·.1)↔k∈m.map (·.1)∨k=p.1:=by
   rw[mem_keys,mem_keys,Zd];by_cases h:(p.1==k)=true
   ·rw[if_pos h];have e:p.1=k:=by simpa using h
    exact⟨fun _=>.inr e.symm,fun _=>⟨_,rfl⟩⟩
   ·rw[if_neg h];have e:k≠p.1:=fun e=>h (by simp[e]);simp[e]
  rw[h2] at h1;simp only[fA,qBl,qAu,qAg] at h1⊢;rw[h1,or_assoc]
theorem NY{α}(l m:List (Str×α)) k (hn:(l.map (·.1)).Nodup):dw (fA l m) k=match dw l k with | some v=>some v | none=>dw m k:=by
 induction l generalizing m with
 | nil=>rfl
 | cons p l ih=>
  rw[qAu,qBR] at hn;have h1:=ih (jX m p.1 p.2) hn.2;simp only[fA,qBl] at h1⊢;rw[h1,Zd,mU];by_cases h:(p.1==k)=true
  ·rw[if_pos h,if_pos h];have e:p.1=k:=by simpa using h
   have h3:dw l k=none:=by
    cases hm:dw l k with
    | none=>rfl
    | some v=>exact absurd ((mem_keys l k).2 ⟨v,hm⟩) (e▸hn.1)
   rw[h3]
  ·rw[if_neg h,if_neg h]
theorem yh{α} l k (v:α)(hn:(l.map (·.1)).Nodup):dw l k=some v↔(k,v)∈l:=by
 induction l with
 | nil=>simp[Kz]
 | cons p l ih=>
  rw[qAu,qBR] at hn;rw[mU,qAg];by_cases h:(p.1==k)=true
  ·rw[if_pos h];have e:p.1=k:=by simpa using h
   constructor
   ·intro h2;cases h2;exact .inl (by rw[←e])
   ·rintro(h2 | h2)
    ·rw[←h2]
    ·exact absurd (qAA.2 ⟨_,h2,rfl⟩) (e▸hn.1)
  ·rw[if_neg h,ih hn.2];constructor
   ·exact .inr
   ·rintro(h2 | h2)
    ·exact absurd (by rw[←h2];simp) h
    ·exact h2
theorem afq{α}{l l':List (Str×α)}(hp:l.Perm l')(hn:(l.map (·.1)).Nodup) k:dw l k=dw l' k:=by
 have hn':(l'.map (·.1)).Nodup:=(hp.map _).nodup_iff.1 hn;cases h:dw l k with
 | some v=>
  rw[yh _ _ _ hn] at h;exact((yh _ _ _ hn').2 (hp.mem_iff.1 h)).symm
 | none=>
  cases h':dw l' k with
  | none=>rfl
  | some v=>
   rw[yh _ _ _ hn'] at h';rw[(yh _ _ _ hn).2 (hp.mem_iff.2 h')] at h;cases h
mutual
def yt(q:Int):Ty→Bool
 | .mk k _ ks=>k==q ||ama q ks
def ama(q:Int):List Ty→Bool
 | []=>false
 | t::ts=>yt q t ||ama q ts
end
theorem YV q:∀ts,ama q ts=ts.any (yt q)
 | []=>rfl
 | t::ts=>by simp[ama,YV q ts]
theorem aqj q:∀t:Ty,Ev (fun n=>mM n t q) (yt q t):=Ty.ind fun k nm ks ih=>by
 refine Ev.succ ?_;show Ev (fun n=>yE n _ _ _ _ (.mk k nm ks) q) _;unfold yE;simp only[Ty.kind,Ty.kids,yt,YV];have hk:Ev (fun n=>gL n ks q) (ks.any (yt q)):=by
  refine Ev.succ ?_;show Ev (fun n=>mI n _ _ _ _ ks q) _;unfold mI;refine Ev.bind (a:=gI (yt q) 0 ks) (Ev.succ ?_) ?_
  ·show Ev (fun n=>oN n _ _ _ _ ks q) _;unfold oN;refine vI ks (fun n k i=>zI n _ _ _ (fun p0 p1=>kS n p0 p1) ks q k i) (fun n x=>kS n x q) (yt q) (fun n k i=>rfl) (fun x hx=>?_);refine Ev.succ ?_;show Ev (fun n=>vR n _ _ _ _ x q) _;unfold vR;exact Ev.bind (ih x hx) (Ev.ret _)
  ·rw[vQ _ _ _ (qBP _)];exact Ev.ret _
 cases hq:(k==q)
 ·exact Ev.bind (Ev.bind hk (Ev.ret _)) (Ev.ret _)
 ·exact Ev.bind (Ev.ret _) (Ev.ret _)
mutual
def dN:Ty→List Str
 | .mk k nm ks=>cond (k==3) [nm] (kr ks)
def kr:List Ty→List Str
 | []=>[]
 | t::ts=>dN t++kr ts
end
mutual
def H7:Ty→Bool
 | .mk k _ ks=>decide (ks.length≤2)&&(k !=3 ||ks.length==0)&&UW ks
def UW:List Ty→Bool
 | []=>true
 | t::ts=>H7 t&&UW ts
end
theorem NH:∀{ts:List Ty},UW ts=true→∀t∈ts,H7 t=true
 | [],_,t,h=>by cases h
 | u::ts,h,t,ht=>by
  simp only[UW,qAa] at h;rcases qAg.1 ht with rfl | ht
  ·exact h.1
  ·exact NH h.2 t ht
theorem aBe{k}{nm}{len}{d}(h:iX k nm len d=true):len≤2∧(k=3→len=0):=by
 unfold iX at h;simp only[qAa,qAZ,beq_iff_eq] at h;obtain⟨_,h,_⟩:=h;rcases h with⟨h1,h2⟩ | ⟨h1,h2⟩ | ⟨h1,h2⟩<;>omega
mutual
theorem aAC:∀t d c,(pf t d c).1=true→H7 t=true∧(dN t).length≤(pf t d c).2 - c
 | .mk k nm ks,d,c,h=>by
  simp only[pf] at h⊢;cases hb:((decide (c+1≤16)&&decide (d≤6))&&iX k nm ks.length d) with
  | false=>rw[hb] at h;cases h
  | true=>
   rw[hb] at h;simp only[cond_true] at h⊢;simp only[qAa] at hb;have hh:=aBe hb.2;have h1:=avw ks (d+1) (c+1) h;have h2:=anN ks (d+1) (c+1) h;constructor
   ·simp only[H7,h1.1,qBM,qAa,decide_eq_true_eq,qAZ,bne_iff_ne,beq_iff_eq];refine⟨hh.1,?_⟩;by_cases e:k=3
    ·exact .inr (hh.2 e)
    ·exact .inl e
   ·simp only[dN];cases k==3 with
    | true=>simp only[cond_true,qAW];omega
    | false=>simp only[cond_false];omega
theorem avw:∀(ts:List Ty) (d c:Int),(nP ts d c).1=true→UW ts=true∧((kr ts).length:Int)≤(nP ts d c).2 - c
 | [],_,c,_=>by simp[nP,UW,kr]
 | t::ts,d,c,h=>by
  simp only[nP] at h⊢;cases hb:(pf t d c).1 with
  | false=>rw[hb] at h;cases h
  | true=>
   rw[hb] at h;simp only[cond_true] at h⊢;have h1:=aAC t d c hb;have h2:=avw ts d _ h;simp only[UW,h1.1,h2.1,qBM,kr,qAf];refine⟨trivial,?_⟩;omega
end
theorem adh{t}(h:eG t=true):H7 t=true∧(dN t).length≤16:=by
 have h1:=aAC t 1 0 h;have h2:=aa6 t 1 0 h;exact⟨h1.1,by omega⟩
theorem atF:∀t:Ty,H7 t=true→∀m:List (Str×Bool),m.length+(dN t).length≤1000→Ev (fun n=>ou n t m) (fA ((dN t).map fun s=>(s,true)) m):=Ty.ind fun k nm ks ih hok m hlen=>by
 refine Ev.succ ?_;show Ev (fun n=>zY n _ (.mk k nm ks) m) _;unfold zY;simp only[Ty.kind,Ty.name,dN] at hlen⊢;simp only[H7,qAa,decide_eq_true_eq,qAZ,beq_iff_eq,bne_iff_ne] at hok;have hloop:∀(m:List (Str×Bool)),m.length+(kr ks).length≤1000→Ev (fun n=>Dg n (fun p0 p1=>ou n p0 p1) (.mk k nm ks) n (0,m)) (.nx (fA ((kr ks).map fun s=>(s,true)) m)):=fun m hm=>by
  have h:=qO ks (fun n k' i s=>Dg n (fun p0 p1=>ou n p0 p1) (.mk k nm ks) k' (i,s)) (fun n x s=>ou n x s) (fun x s=>fA ((dN x).map fun s=>(s,true)) s) (fun s=>s) (fun suf s=>s.length+(kr suf).length≤1000)
   (fun n k' i s=>rfl)
   (fun x suf s hx hs=>by
    simp only[kr,qAf] at hs;refine⟨ih x hx (NH hok.2 x hx) s (by omega),?_⟩;have:=MU ((dN x).map fun s=>(s,true)) s;simp only[qAh] at this;omega) (s0:=m) hm
  have hf:∀(ts:List Ty) (s:List (Str×Bool)),ts.foldl (fun s x=>fA ((dN x).map fun s=>(s,true)) s) s=fA ((kr ts).map fun s=>(s,true)) s:=by
   intro ts
   induction ts with
   | nil=>intro s;rfl
   | cons t ts iht=>intro s;simp only[qBl,kr,qAY,Vh,iht]
  rw[hf] at h;exact h
 cases hq:(k==3) with
 | true=>
  have hk:k=3:=by simpa using hq
  have hks:ks=[]:=by
   rcases hok.1.2 with h | h
   ·exact absurd hk h
   ·exact qAw.1 h
  rw[hq] at hlen;simp only[cond_true,qAW] at hlen⊢;rw[I4 (by omega)];have hl:=AU m nm true;have:=hloop (jX m nm true) (by rw[hks];simp only[kr,qAK];omega);rw[hks] at this⊢;simp only[qAb];exact Ev.bind this (Ev.ret _)
 | false=>
  rw[hq] at hlen;simp only[cond_false,qAb] at hlen⊢;exact Ev.bind (hloop m hlen) (Ev.ret _)
theorem Km{t}(h:eG t=true):Ev (fun n=>qo n t) (((fA ((dN t).map fun s=>(s,true)) []).map (·.1)).mergeSort leS):=by
 unfold qo;refine Ev.bind (wH t) ?_;rw[h];obtain⟨h1,h2⟩:=adh h;refine Ev.bind (atF t h1 [] (by simp;omega)) ?_;have:=MU ((dN t).map fun s=>(s,true)) [];simp only[qAh,qAK] at this;unfold mQ;rw[if_pos (by omega)];exact Ev.ret _
theorem aat t s:s∈((fA ((dN t).map fun s=>(s,true)) []).map (·.1)).mergeSort leS↔s∈dN t:=by
 rw[List.mem_mergeSort,atp];simp
theorem aqh:∀t:Ty,H7 t=true→Ev (fun n=>qc n t) t:=Ty.ind fun k nm ks ih hok=>by
 refine Ev.succ ?_;show Ev (fun n=>yL n _ (.mk k nm ks)) _;unfold yL;simp only[Ty.kind,Ty.name];simp only[H7,qAa,decide_eq_true_eq] at hok;have h:=qO ks (fun n k' i s=>KX n (fun p0=>qc n p0) (.mk k nm ks) k' (i,s)) (fun n x s=>(qc n x).bind fun x2=>app 48 s [x2]) (fun x s=>s++[x]) (fun s=>s) (fun suf s=>s.length+suf.length≤2)
  (fun n k' i s=>by
   show cond _ _ _=_;congr 1;show(idx ks i).bind _=_;congr 1;funext x;simp only[qBT];rfl)
  (fun x suf s hx hs=>by
   simp only[qAm] at hs;refine⟨Ev.bind (ih x hx (NH hok.2 x hx)) ?_,?_⟩
   ·rw[qY (by simp only[qAW];omega) (by omega)];exact Ev.ret _
   ·simp only[qAf,qAW];omega) (s0:=([]:List Ty)) (by simpa using hok.1.1)
 rw[Vz] at h;exact Ev.bind h (Ev.ret _)
def bV(env:Env)s:=env.carriers.any fun c=>c.name==s
def I8(c:Carrier):=ident c.name&&(!decide (8<(c.elems.length:Int))&&c.elems.all ident)
def Ct env(d:Decl):=named d.name&&(eG d.ty&&!(yt 2 d.ty)&&(dN d.ty).all (bV env))
def Bt(env:Env):=(env.carriers.flatMap fun c=>c.name::c.elems)++env.names.map (·.name)
def names2(env:Env):=env.carriers.map (·.name)++(env.carriers.flatMap (·.elems)++env.names.map (·.name))
def mW:List Str→List Str→Bool
 | _,[]=>true
 | pre,x::xs=>!pre.any (·==x)&&mW (pre++[x]) xs
theorem aj5:∀l pre,mW pre l=true↔l.Nodup∧∀x∈l,x∉pre
 | [],pre=>by simp[mW]
 | x::l,pre=>by
  simp only[mW,qAa,aj5 l,qAF,qBR,qAg,qCF,beq_iff_eq,qAn,qCK,or_false];constructor
  ·rintro⟨h1,h2,h3⟩;refine⟨⟨fun hx=>(h3 x hx) (.inr rfl),h2⟩,?_⟩;rintro y (rfl | hy)
   ·exact fun hp=>h1 _ hp rfl
   ·exact fun hp=>h3 y hy (.inl hp)
  ·rintro⟨⟨h1,h2⟩,h3⟩;refine⟨fun y hy e=>h3 x (.inl rfl) (e▸hy),h2,fun y hy hp=>?_⟩;rcases hp with hp | rfl
   ·exact h3 y (.inr hy) hp
   ·exact h1 hy
theorem ac4 l:mW [] l=true↔l.Nodup:=by rw[aj5];simp
theorem avg(cs:List Carrier):(cs.flatMap fun c=>c.name::c.elems).Perm (cs.map (·.name)++cs.flatMap (·.elems)):=by
 induction cs with
 | nil=>simp
 | cons c cs ih=>
  simp only[qBb,qAu,qAM];refine List.Perm.cons _ ?_;refine(qDL _ ih).trans ?_;rw[←qAo,←qAo];exact qCl _ qCP
theorem Ni env:(Bt env).Perm (names2 env):=by
 unfold Bt names2;rw[←qAo];exact qCl _ (avg _)
theorem aC9 env:mW [] (Bt env)=mW [] (names2 env):=by
 have h:(mW [] (Bt env)=true)↔(mW [] (names2 env)=true):=by rw[ac4,ac4];exact(Ni env).nodup_iff
 cases h1:mW [] (Bt env)<;>cases h2:mW [] (names2 env)<;>simp_all
def aZ env:=!(decide (8<(env.carriers.length:Int)) ||decide (64<(env.names.length:Int)))&&(env.carriers.all I8&&(env.names.all (Ct env)&&mW [] (names2 env)))
theorem ak4 env s:Ev (fun n=>wG n env s) (bV env s):=by
 unfold wG pE tC;refine Ev.bind (a:=bV env s) ?_ (Ev.ret _);refine Ev.bind (vI env.carriers (fun n k i=>xS n env.carriers s k i) (fun _ x=>some (x.name==s)) (fun c=>c.name==s) (fun n k i=>rfl) (fun x _=>Ev.ret _)) ?_;rw[vQ _ _ _ (qBP _)];exact Ev.ret _
theorem aqg env {t}(h:eG t=true):Ev (fun n=>vk n env t) ((dN t).all (bV env)):=by
 unfold vk qE um;refine Ev.bind (Km h) ?_;generalize hl:((fA ((dN t).map fun s=>(s,true)) []).map (·.1)).mergeSort leS=l;have hm:∀s,s∈l↔s∈dN t:=fun s=>by rw[←hl];exact aat t s
 have hf:=vI l (fun n k i=>zn n l env.carriers env.names k i) (fun n x=>wI n x env.carriers env.names) (fun s=>!(bV env s)) (fun n k i=>rfl) (fun x _=>by
  unfold wI;exact Ev.bind (ak4 env x) (Ev.ret _))
 refine Ev.bind (a:=l.any fun s=>!(bV env s)) (Ev.bind hf ?_) ?_
 ·rw[vQ _ _ _ (qBP _)];exact Ev.ret _
 ·rw[su,qCr];have:l.all (bV env)=(dN t).all (bV env):=by
   have h:(l.all (bV env)=true)↔((dN t).all (bV env)=true):=by simp only[qAE,hm]
   cases h1:l.all (bV env)<;>cases h2:(dN t).all (bV env)<;>simp_all
  rw[this];exact Ev.ret _
theorem aqB env (h:(Bt env).length≤1000000):Ev (fun n=>Aj n env) (Bt env):=by
 unfold Aj;simp only[Bt,qAf,qAh] at h;have h1:=qO env.carriers (fun n k i s=>Kk n env k (s,i)) (fun n x s=>(app 16 s [x.name]).bind fun x4=>app 16 x4 x.elems) (fun x s=>s++(x.name::x.elems)) (fun s=>s) (fun suf s=>s.length+(suf.flatMap fun c=>c.name::c.elems).length≤1000000)
  (fun n k i s=>by
   show cond _ _ _=_;congr 1;show(idx env.carriers i).bind _=_;congr 1;funext x;simp only[qBT];rfl)
  (fun x suf s hx hs=>by
   simp only[qBb,qAf,qAm] at hs;refine⟨?_,?_⟩
   ·rw[qY (by simp only[qAW];omega) (by omega),qAb,qY (by simp only[qAf,qAW];omega) (by omega)];rw[qAo];exact Ev.ret _
   ·simp only[qAf,qAm];omega) (s0:=([]:List Str)) (by simp only[qAK];omega)
 have hf1:∀(cs:List Carrier) (s:List Str),cs.foldl (fun s x=>s++(x.name::x.elems)) s=s++cs.flatMap fun c=>c.name::c.elems:=by
  intro cs
  induction cs with
  | nil=>intro s;simp
  | cons c cs ih=>intro s;rw[qBl,ih];simp
 rw[hf1,qAt] at h1;have h2:=qO env.names (fun n k i s=>Kj n env k (s,i)) (fun n x s=>app 16 s [x.name]) (fun x s=>s++[x.name]) (fun s=>s) (fun suf s=>s.length+suf.length≤1000000)
  (fun n k i s=>rfl)
  (fun x suf s hx hs=>by
   simp only[qAm] at hs;refine⟨?_,?_⟩
   ·rw[qY (by simp only[qAW];omega) (by omega)];exact Ev.ret _
   ·simp only[qAf,qAW];omega) (s0:=env.carriers.flatMap fun c=>c.name::c.elems) (by omega)
 have hf2:∀(cs:List Decl) (s:List Str),cs.foldl (fun s x=>s++[x.name]) s=s++cs.map (·.name):=by
  intro cs
  induction cs with
  | nil=>intro s;simp
  | cons c cs ih=>intro s;rw[qBl,ih];simp
 rw[hf2] at h2;exact Ev.bind h1 (Ev.bind h2 (Ev.ret _))
theorem ard l (hl:l.length≤1000000):Ev (fun n=>Ay n l) (mW [] l):=by
 unfold Ay;have h:=Ua l (fun n k i s=>Lf n l k (i,s)) (fun n x s=>(ZK (dw s x) (some false) (fun x3=>some x3):Option Bool).bind fun s3=>cond s3 (some (.rt false)) ((xG s x true).bind fun x2=>some (.nx x2))) (fun x s=>cond ((dw s x).getD false) (.rt false) (.nx (jX s x true))) (fun _=>())
  (fun suf s=>s.length+suf.length≤1000000)
  (fun n k i s=>by
   show cond _ _ _=_;congr 1;show(idx l i).bind _=_;congr 1;funext x;cases dw s x with
   | none=>simp only[ZK,qAb,cond_false,qBT];rfl
   | some b=>cases b<;>simp only[ZK,qAb,cond_false,cond_true,qBT];rfl)
  (fun x suf s hx hs=>by
   simp only[qAm] at hs;refine⟨?_,fun s' he=>?_⟩
   ·rw[I4 (by omega)];cases dw s x with
    | none=>exact Ev.ret _
    | some b=>cases b<;>exact Ev.ret _
   ·cases hb:(dw s x).getD false with
    | true=>rw[hb] at he;cases he
    | false=>
     rw[hb] at he;cases he;have:=AU s x true;omega) (s0:=([]:List (Str×Bool))) (by simpa using hl)
 have key:∀(suf pre:List Str) (s:List (Str×Bool)),(∀x,dw s x=if pre.any (·==x) then some true else none)→gQ (τ:=Unit) (fun x s=>cond ((dw s x).getD false) (.rt false) (.nx (jX s x true))) (fun _=>()) suf s=cond (mW pre suf) (.nx ()) (.rt false):=by
  intro suf
  induction suf with
  | nil=>intro pre s _;rfl
  | cons x suf ih=>
   intro pre s hs;simp only[gQ,mW];rw[hs x];cases hb:pre.any (·==x) with
   | true=>rfl
   | false=>
    simp only[qBO,if_false,qCt,cond_false,qBe,qAz];refine ih (pre++[x]) _ (fun y=>?_);rw[Zd,hs y];simp only[List.any_append,qDm,List.any_nil,qDU];cases hy:(x==y) with
    | true=>simp
    | false=>simp
 rw[key l [] [] (fun x=>rfl)] at h;refine Ev.bind h ?_;cases mW [] l
 ·exact Ev.ret _
 ·exact Ev.ret _
theorem acv{env}(h1:¬8<(env.carriers.length:Int))(h2:¬64<(env.names.length:Int))(h3:env.carriers.all I8=true):(names2 env).length≤1000:=by
 have key:∀cs:List Carrier,cs.all I8=true→(cs.flatMap (·.elems)).length≤8*cs.length:=by
  intro cs
  induction cs with
  | nil=>intro _;simp
  | cons c cs ih=>
   intro h;simp only[qBK,qAa,I8,qAF,decide_eq_false_iff_not] at h;have:=ih (by simpa only[qAE,I8] using h.2);simp only[qBb,qAf,qAm];omega
 have:=key _ h3;simp only[names2,qAf,qAh];omega
theorem Kl env (hs:∀d∈env.names,d.name.length≤9223372036854775807):Ev (fun n=>qb n env) (aZ env):=by
 unfold qb;by_cases h1:8<(env.carriers.length:Int)
 ·have:aZ env=false:=by simp only[aZ,decide_eq_true h1,qCA,qAC,qBs]
  rw[this,decide_eq_true h1];exact Ev.ret _
 by_cases h2:64<(env.names.length:Int)
 ·have:aZ env=false:=by simp only[aZ,decide_eq_true h2,qDX,qAC,qBs]
  rw[this,decide_eq_true h2,decide_eq_false h1];exact Ev.ret _
 simp only[aZ,decide_eq_false h1,decide_eq_false h2,qDU,qBe,qAz,cond_false,qAb];have hcar:=ajo env.carriers (fun n k i=>KM n env k i) (fun n x=>((fE n x.name).bind fun x10=>cond (!x10) (some true) (some (decide (8<(x.elems.length:Int))))).bind fun s7=>cond s7 (some (.rt false)) ((vB n x n 0).bind (LR.el (fun _=>some (.nx ())) (fun r=>some (.rt r))))) (fun c=>!(I8 c)) false
  (fun n k i=>by
   show cond _ _ _=_;congr 1;congr 1;funext x;cases((fE n x.name).bind fun x10=>cond (!x10) (some true) (some (decide (8<(x.elems.length:Int))))) with
   | none=>rfl
   | some b=>
    cases b with
    | true=>rfl
    | false=>
     simp only[qAb,cond_false];cases vB n x n 0 with
     | none=>rfl
     | some r=>cases r<;>rfl)
  (fun c hc=>by
   refine Ev.bind (a:=!(ident c.name) ||decide (8<(c.elems.length:Int))) (Ev.bind (pI c.name) ?_) ?_
   ·cases ident c.name
    ·exact Ev.ret _
    ·exact Ev.ret _
   ·unfold I8;cases ident c.name with
    | false=>exact Ev.ret _
    | true=>
     cases decide (8<(c.elems.length:Int)) with
     | true=>exact Ev.ret _
     | false=>
      simp only[qAC,Bool.false_or,cond_false,qAz,qBe];have h:=qH c.elems (fun n k i=>vB n c k i) (fun n x=>(fE n x).bind fun x9=>some (!x9)) (fun s=>!(ident s)) false
       (fun n k i=>by
        show cond _ _ _=_;congr 1;congr 1;funext x;simp only[qBT,qAb];rfl)
       (fun x _=>Ev.bind (pI x) (Ev.ret _))
      rw[su] at h;refine Ev.bind h ?_;cases c.elems.all ident
      ·exact Ev.ret _
      ·exact Ev.ret _)
 rw[su] at hcar;refine Ev.bind hcar ?_;cases hc:env.carriers.all I8 with
 | false=>exact Ev.ret _
 | true=>
  simp only[qAC,cond_false,qAz];have hdecl:=qH env.names (fun n k i=>KP n env k i) (fun n x=>(uS n x.name).bind fun x4=>cond (!x4) (some true) ((wD n x.ty).bind fun x5=>cond (!x5) (some true) ((vk n env x.ty).bind fun x6=>some (!x6)))) (fun d=>!(Ct env d)) false
   (fun n k i=>rfl)
   (fun d hd=>by
    refine Ev.bind (acg d.name (hs d hd)) ?_;unfold Ct;cases named d.name with
    | false=>exact Ev.ret _
    | true=>
     simp only[qAC,cond_false,qAz];refine Ev.bind (a:=eG d.ty&&!(yt 2 d.ty)) ?_ ?_
     ·unfold wD;refine Ev.bind (a:=eG d.ty&&!(yt 2 d.ty)) (Ev.bind (wH d.ty) ?_) (Ev.ret _);cases eG d.ty with
      | false=>exact Ev.ret _
      | true=>exact Ev.bind (aqj 2 d.ty) (Ev.ret _)
     ·cases hv:eG d.ty with
      | false=>exact Ev.ret _
      | true=>
       cases yt 2 d.ty with
       | true=>exact Ev.ret _
       | false=>exact Ev.bind (aqg env hv) (Ev.ret _))
  rw[su] at hdecl;refine Ev.bind hdecl ?_;cases hd:env.names.all (Ct env) with
  | false=>exact Ev.ret _
  | true=>
   simp only[qAC,cond_false,qAz];have hlen:=acv h1 h2 hc;have hlen1:(Bt env).length≤1000:=by rw[(Ni env).length_eq];exact hlen
   refine Ev.bind (aqB env (by omega)) ?_;rw[←aC9];exact Ev.bind (ard _ (by omega)) (Ev.ret _)
theorem afC n p0 k s:Es n p0 (k+1) s=Js n p0 (Es n p0 k) s:=rfl
theorem nU n (qb9:(List Val)→(List Val)→Option Int)(qbx:Val→Val→Option Int) p0 p1 k s:kT n qb9 qbx p0 p1 (k+1) s=iH n qb9 qbx p0 p1 (kT n qb9 qbx p0 p1 k) s:=rfl
def QF:List Val→List Val→LR Unit Int
 | [],_=>.nx ()
 | _::_,[]=>.rt 1
 | a::asx,b::bs=>cond (bH a b !=0) (.rt (bH a b)) (QF asx bs)
theorem ajl:∀asx bs (x y:Nat),x+bs.length=y+asx.length→(match QF asx bs with | .nx _=>cond (decide ((x:Int)<(y:Int))) (-1) 0 | .rt r=>r)=dI asx bs
 | [],[],x,y,h=>by
  simp only[QF,dI];rw[decide_eq_false (by simp at h;omega)];rfl
 | [],b::bs,x,y,h=>by
  simp only[QF,dI];rw[decide_eq_true (by simp at h;omega)];rfl
 | a::asx,[],x,y,h=>rfl
 | a::asx,b::bs,x,y,h=>by
  simp only[QF,dI];cases hc:(bH a b !=0) with
  | true=>rfl
  | false=>exact ajl asx bs x y (by simp at h;omega)
theorem aip n a b:cmp_Compare_int n a b=some (jQ a b):=by
 unfold cmp_Compare_int jQ;simp only[bne_self_eq_false,cond_false];cases decide (a<b)<;>cases decide (b<a)<;>rfl
theorem aBm a b c:Ev (fun n=>UU n [a,b,c]) (cond (a !=0) a (cond (b !=0) b (cond (c !=0) c 0))):=by
 refine⟨4,fun n hn=>?_⟩;obtain⟨m,rfl⟩:∃m,n=m+4:=⟨n - 4,by omega⟩;show(Es (m+4) [a,b,c] (m+4) 0).bind _=_;have i0:idx [a,b,c] 0=some a:=rfl;have i1:idx [a,b,c] (0+1)=some b:=rfl;have i2:idx [a,b,c] (0+1+1)=some c:=rfl;simp only[afC,Js,i0,i1,i2,qAb,show decide ((0:Int)<(([a,b,c]:List Int).length:Int))=true from rfl,show decide ((0+1:Int)<(([a,b,c]:List Int).length:Int))=true from rfl,show decide ((0+1+1:Int)<(([a,b,c]:List Int).length:Int))=true from rfl,show decide ((0+1+1+1:Int)<(([a,b,c]:List Int).length:Int))=false from rfl,cond_true,cond_false];cases a !=0<;>cases b !=0<;>cases c !=0<;>rfl
theorem anj:∀asx,(∀a∈asx,∀b,Ev (fun n=>dF n a b) (bH a b))→∀bs pa pb,pa.length=pb.length→∃N,∀n,N≤n→∀k,asx.length+1≤k→kT n (fun p0 p1=>j5 n p0 p1) (fun p0 p1=>dF n p0 p1) (pa++asx) (pb++bs) k pa.length=some (QF asx bs)
 | [],_,bs,pa,pb,hp=>by
  refine⟨0,fun n _ k hk=>?_⟩;obtain⟨j,rfl⟩:∃j,k=j+1:=⟨k - 1,by simp at hk;omega⟩;rw[nU];unfold iH;rw[decide_eq_false (by simp)];rfl
 | a::asx,H,[],pa,pb,hp=>by
  refine⟨0,fun n _ k hk=>?_⟩;obtain⟨j,rfl⟩:∃j,k=j+1:=⟨k - 1,by simp at hk;omega⟩;rw[nU];unfold iH;rw[decide_eq_true (by simp;omega),gF];simp only[cond_true,qAb];rw[decide_eq_true (by simp;omega)];rfl
 | a::asx,H,b::bs,pa,pb,hp=>by
  obtain⟨N1,h1⟩:=H a (by simp) b;obtain⟨N2,h2⟩:=anj asx (fun x hx=>H x (by simp[hx])) bs (pa++[a]) (pb++[b]) (by simp[hp]);refine⟨N1+N2,fun n hn k hk=>?_⟩;obtain⟨j,rfl⟩:∃j,k=j+1:=⟨k - 1,by simp at hk;omega⟩;have h1:dF n a b=_:=h1 n (by omega);have h2:=h2 n (by omega) j (by simp at hk;omega);rw[nU];unfold iH;rw[decide_eq_true (by simp;omega),gF];simp only[cond_true,qAb];rw[decide_eq_false (by simp;omega),show(pa.length:Int)=(pb.length:Int) by rw[hp],gF];simp only[cond_false,qAb];rw[h1];simp only[qAb,QF];cases hc:(bH a b !=0) with
  | true=>rfl
  | false=>
   simp only[cond_false];rw[show(pb.length:Int)+1=((pa++[a]).length:Int) by simp[hp]];simpa using h2
theorem aiy asx bs (H:∀a∈asx,∀b,Ev (fun n=>dF n a b) (bH a b)):Ev (fun n=>j5 n asx bs) (dI asx bs):=by
 obtain⟨N,h⟩:=anj asx H bs [] [] rfl;refine Ev.succ ?_;refine⟨N+asx.length+1,fun n hn=>?_⟩;have:=h n (by omega) n (by omega);simp only[qAt,qAK] at this;show nX n _ _ asx bs=_;unfold nX;rw[show((0:Nat):Int)=0 from rfl] at this;rw[this];have he:=ajl asx bs asx.length bs.length (by omega);rw[←he];cases QF asx bs with
 | rt r=>rfl
 | nx u=>
  simp only[qAb,LR.el];cases decide ((asx.length:Int)<(bs.length:Int))<;>rfl
theorem Co a b:Ev (fun n=>dF n a b) (bH a b):=by
 revert b
 induction a using Val.ind with
 | h k n s ks ih=>
  intro b;obtain⟨k',n',s',ks'⟩:=b;have hk:=aiy ks ks' ih;refine Ev.succ ?_;show Ev (fun m=>Dq m _ _ (.mk k n s ks) (.mk k' n' s' ks')) _;unfold Dq;simp only[aip,strings_Compare,qAb,Val.kind,Val.n,Val.name,Val.kids];refine Ev.bind (aBm _ _ _) ?_;simp only[bH];cases h1:(jQ k k' !=0) with
  | true=>simp only[cond_true,h1];exact Ev.ret _
  | false=>
   cases h2:(jQ n n' !=0) with
   | true=>simp only[cond_true,cond_false,h2];exact Ev.ret _
   | false=>
    cases h3:(Lib.compareBytes s s' !=0) with
    | true=>simp only[cond_true,cond_false,h3];exact Ev.ret _
    | false=>
     simp only[cond_false,bne_self_eq_false];exact Ev.bind hk (Ev.ret _)
end
end Abs
end Go.Proofs.YtneeginmfjageaaGreat

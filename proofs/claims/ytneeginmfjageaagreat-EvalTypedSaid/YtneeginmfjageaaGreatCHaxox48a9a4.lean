/-
  Contracts of library functions as entries. Conditions: none.
-/
import Derived.KernelRfl
import Derived.Test.YtneeginmfjageaaGreatCClnoxf91aa7
import Derived.Test.YtneeginmfjageaaGreatCDfoxaa89f6
import Derived.Test.YtneeginmfjageaaGreatCP1ox0c546e
set_option linter.all false
namespace Go.Proofs.YtneeginmfjageaaGreat
namespace Abs
section
open Go Go.Proofs
theorem NK{P te e}(b:kE P e.f=true)(h2:M7 e=true)(p:e.pe=none)(h:∀x y,e.F x=some y->∀a,HEq a y->cK P e.f (aT (dJ bI e.ps (eD _ x) (dn e.na) []).2 (dJ bI e.ps (eD _ x) (dn e.na) []).1) (aA (dJ bI e.ps (eD _ x) (dn e.na) []).2)
  (av (dJ bI e.rs (eD _ (e.out a)) (dn e.nr) (dJ bI e.ps (eD _ x) (dn e.na) []).2).2 (res1 (dJ bI e.rs (eD _ (e.out a)) (dn e.nr) (dJ bI e.ps (eD _ x) (dn e.na) []).2).1)) (aA (dJ bI e.rs (eD _ (e.out a)) (dn e.nr) (dJ bI e.ps (eD _ x) (dn e.na) []).2).2)):ah P te e:=by
 obtain⟨f,n,s,i,j,R,k,g,F,o⟩:=e;cases p;refine⟨b,h2,λx y c t l m=>?_⟩;have:=h x y c y HEq.rfl;intro r h2 d
 grind
theorem acL n:ah Tryz.prog TE (acR n):=NK aFJ (by kernel_rfl) rfl λx y h b a=>by cases a;exact Zn n x.1 x.2 y h
theorem aff{α b x y}(h:app b ([]:List α) x=some y):y=x:=by
 unfold app at h
 grind
theorem WK n:ah Tryz.prog TE (VL n):=NK azz (by kernel_rfl) rfl λx y h b a=>by cases a;have e:y=x:=aff h;subst e;exact E8 56 y y h rfl
theorem Eb n:ah Tryz.prog TE (SF n):=NK azz (by kernel_rfl) rfl λx y h b a=>by cases a;have e:y=x:=aff h;subst e;exact aeO 56 y y h rfl
theorem Qj n:ah Tryz.prog TE (Qo n):=NK aCZ (by kernel_rfl) rfl λx y h b a=>by cases a;have e:y=x:=aff h;subst e;exact acX 24 y y h rfl
theorem aap n:ah Tryz.prog TE (aax n):=NK aFD (by kernel_rfl) rfl λx y h b a=>by cases a;exact Ye n x y h
theorem WI n p0 r (h:wQ n p0=some r):cK Tryz.prog 74 [.psl 0 4 (List.length p0)] [.arr 4 (List.map aQ p0)] (.psl 0 4 (List.length p0)) [.arr 4 (List.map aQ p0)]:=by
 intro k y w s d l m;have g:=m 0 (by simp)
 match s,l with
 |[v],_=>
 simp only[List.getD,qAF,qAv]at g;cases g with|@psl _ _ _ p a i j o=>
  refine(HY a _ p i j w).mono ?_;rintro e z ⟨rfl,rfl⟩;refine⟨_,k,rfl,Leave.same d (qCV _ _),.psl (qAd _) j ?_⟩;obtain⟨_,⟨f,A⟩|⟨b,c,q,t,f,u,x⟩⟩:=o;·exact⟨rfl,.inl ⟨f,by omega⟩⟩
  exact⟨rfl,.inr ⟨b,c,q,t,f,u,qAu (qAQ 4 i) x⟩⟩
theorem Yf n:ah Tryz.prog TE (Yt n):=NK aEy (by kernel_rfl) rfl λx y h b a=>by cases a;exact WI n x x rfl
theorem Sr n:ah Tryz.prog TE (SG n):=NK aCO (by kernel_rfl) rfl λx y h b a=>by cases a;exact Qh n x y h
end
section
open Go Go.Proofs
set_option maxRecDepth 100000
theorem CZ n:ah Tryz.prog TE (ah2 n):=MKS n [(3,.jn [.r 2 .B] false)] .n @Tryz.func9
theorem aw7 n:ah Tryz.prog TE (ak5 n):=MKS n [(12,.jn [.r 3 .B] false),(51,.jn [.r 22 .B] false),(831,.jn [.r 40 .B] false)] .n @Tryz.func174
theorem SI n:ah Tryz.prog TE (adQ n):=MKS n [(3,.jn [.r 2 .B] false)] .n @Tryz.func127
theorem abN n:ah Tryz.prog TE (at0 n):=MKS n [(26,.lp [.r 5 .I] 0 [])] .n @Tryz.func103
theorem aa6 n:ah Tryz.prog TE (Zx n):=MKS n [] (.c (abN n) .n) @Tryz.func128
theorem NG n:ah Tryz.prog TE (ahl n):=MKS n [(3,.jn [.r 2 .B] false)] .n @Tryz.func129
theorem vC n:ah Tryz.prog TE (RD n):=MKS n [(6,.jn [.r 21 .B] false),(58,.lp [.r 3 .I] 0 []),(932,.jn [.r 45 .B] false)] (.c (SI n) (.c (aa6 n) (.c (NG n) .n))) @Tryz.func99
theorem SQ n:ah Tryz.prog TE (R7 n):=MKS n [(3,.jn [.r 2 .B] false)] (.c (vC n) .n) @Tryz.func176
theorem aiN n:ah Tryz.prog TE (ah3 n):=MKS n [(3,.jn [.r 2 .B] false)] (.c (vC n) (.c (SQ n) .n)) @Tryz.func100
theorem SE n:ah Tryz.prog TE (adM n):=MKS n [(3,.jn [.r 2 .B] false)] .n @Tryz.func62
theorem aha:∀n,ah Tryz.prog TE (af7 n)|0=>iZ (fn:=Tryz.f119) (by kernel_rfl) λ_=>rfl|n+1=>MKS n [(14,.jn [.r 25 .B] false),(31,.jn [.r 7 .I] true),(126,.jn [.r 61 .B] false),(250,.jn [.r 28 .B] false),(1018,.lp [.r 2 .I,.r 8 .I] 1 [.r 2 .I])] (.c (vC n) (.c (aha n) .n)) @Tryz.func119
theorem Cr n:ah Tryz.prog TE (Tv n):=MKS n [] (.c (aha n) .n) @Tryz.func57
theorem an1 n:ah Tryz.prog TE (X7 n):=MKS n [(3,.jn [.r 2 .B] false)] .n @Tryz.func175
theorem ayV n:ah Tryz.prog TE (akY n):=MKS n [(14,.jn [.r 29 .B] false),(15,.jn [] true),(62,.jn [.r 72 .B] false),(506,.jn [.r 2 .B] false)] (.c (aw7 n) (.c (aiN n) (.c (SE n) (.c (vC n) (.c (Cr n) (.c (an1 n) .n)))))) @Tryz.func98
theorem agK:∀n,ah Tryz.prog TE (aiK n)|0=>iZ (fn:=Tryz.f49) (by kernel_rfl) λ_=>rfl|n+1=>MKS n [(14,.jn [.r 20 .B] false),(122,.lp [.r 2 .I,.r 7 .I] 0 [.r 2 .I])] (.c (ayV n) (.c (agK n) .n)) @Tryz.func49
theorem za n:ah Tryz.prog TE (V6 n):=MKS n [] (.c (agK n) .n) @Tryz.func22
theorem alO:∀n,ah Tryz.prog TE (alM n)|0=>iZ (fn:=Tryz.f27) (by kernel_rfl) λ_=>rfl|n+1=>MKS n [(58,.lp [.r 3 .I,.r 4 .I] 0 [.r 3 .I]),(1865,.jn [.r 5 .I] false),(3730,.jn [.r 25 .B] false)] (.c (alO n) (.c (SE n) .n)) @Tryz.func27
theorem CW n:ah Tryz.prog TE (agm n):=MKS n [(3,.jn [.r 2 .B] false)] (.c (za n) (.c (alO n) .n)) @Tryz.func10
theorem Xq n:ah Tryz.prog TE (XI n):=MKS n [(3,.jn [.r 2 .B] false)] .n @Tryz.func184
theorem ajH n:ah Tryz.prog TE (Ux n):=MKS n [(26,.jn [.r 4 .B] false)] .n @Tryz.func185
theorem aoN n:ah Tryz.prog TE (aaJ n):=MKS n [(3,.jn [.r 2 .B] false)] .n @Tryz.func268
theorem anh n:ah Tryz.prog TE (XW n):=MKS n [(3,.jn [.r 2 .B] false)] (.c (Xq n) (.c (aoN n) .n)) @Tryz.func186
theorem qZ n:ah Tryz.prog TE (MV n):=MKS n [(6,.jn [.r 20 .B] false),(58,.lp [.r 23 .I] 0 [])] (.c (Xq n) (.c (ajH n) (.c (anh n) .n))) @Tryz.func107
theorem EM n:ah Tryz.prog TE (tF n):=MKS n [(3,.jn [.r 4 .B] false)] .n @Tryz.func319
theorem DY n:ah Tryz.prog TE (sF n):=MKS n [] (.c (EM n) .n) @Tryz.func269
theorem Ii n:ah Tryz.prog TE (GA n):=MKS n [] (.c (DY n) .n) @Tryz.func187
theorem acp n:ah Tryz.prog TE (MC n):=MKS n [] (.c (Ii n) (.c (qZ n) .n)) @Tryz.func108
theorem He n:ah Tryz.prog TE (GX n):=MKS n [(7,.jn [.r 4 .B] false)] .n @Tryz.func137
theorem fH:∀n,ah Tryz.prog TE (um n)/\ah Tryz.prog TE (qG n)/\ah Tryz.prog TE (uw n)/\ah Tryz.prog TE (rF n)|0=>⟨iZ (fn:=Tryz.f320) (by kernel_rfl) λ_=>rfl,iZ (fn:=Tryz.f270) (by kernel_rfl) λ_=>rfl,iZ (fn:=Tryz.f191) (by kernel_rfl) λ_=>rfl,iZ (fn:=Tryz.f274) (by kernel_rfl) λ_=>rfl⟩|n+1=>⟨MKS n [(26,.lp [.r 8 .I,.o 1 (.bx [(0,.lf (.n .i64))])] 0 [.o 1 (.bx [(0,.lf (.n .i64))])])] (.c (fH n).2.2.2 .n) @Tryz.func320,
  MKS n [] (.c (fH n).1 .n) @Tryz.func270,
  MKS n [(15,.jn [.r 9 .I] true),(62,.jn [.r 45 .B] false)] (.c (He n) (.c (qZ n) (.c (fH n).2.1 .n))) @Tryz.func191,
  MKS n [] (.c (fH n).2.2.1 .n) @Tryz.func274⟩
theorem Qn n:ah Tryz.prog TE (uw n):=(fH n).2.2.1
theorem tJ n:ah Tryz.prog TE (OD n):=MKS n [] (.c (Qn n) .n) @Tryz.func113
theorem eH:∀n,ah Tryz.prog TE (rU n)/\ah Tryz.prog TE (oK n)/\ah Tryz.prog TE (DK n)/\ah Tryz.prog TE (Ag n)|0=>⟨iZ (fn:=Tryz.f320) (by kernel_rfl) λ_=>rfl,iZ (fn:=Tryz.f270) (by kernel_rfl) λ_=>rfl,iZ (fn:=Tryz.f188) (by kernel_rfl) λ_=>rfl,iZ (fn:=Tryz.f271) (by kernel_rfl) λ_=>rfl⟩|n+1=>⟨MKS n [(26,.lp [.r 8 .I] 0 [])] (.c (eH n).2.2.2 .n) @Tryz.func320,
  MKS n [] (.c (eH n).1 .n) @Tryz.func270,
  MKS n [(3,.jn [.r 4 .B] false)] (.c (eH n).2.1 .n) @Tryz.func188,
  MKS n [] (.c (eH n).2.2.1 .n) @Tryz.func271⟩
theorem acw n:ah Tryz.prog TE (DK n):=(eH n).2.2.1
theorem YK n:ah Tryz.prog TE (Im n):=MKS n [(3,.jn [.r 2 .B] false)] (.c (tJ n) (.c (acw n) .n)) @Tryz.func109
theorem OQ:∀n,ah Tryz.prog TE (OJ n)|0=>iZ (fn:=Tryz.f193) (by kernel_rfl) λ_=>rfl|n+1=>MKS n [(3,.jn [.o 0 (.mp .b)] false),(30,.lp [.r 15 .I,.o 0 (.mp .b),.o 1 .dead] 0 [.o 0 (.mp .b),.o 1 .dead])] (.c (OQ n) .n) @Tryz.func193
theorem afr n:ah Tryz.prog TE (OZ n):=MKS n [] .n @Tryz.func195
theorem DC n:ah Tryz.prog TE (MP n):=MKS n [] (.c (tJ n) (.c (OQ n) (.c (afr n) (.c (Sr n) .n)))) @Tryz.func115
theorem TF n:ah Tryz.prog TE (FM n):=MKS n [] .n @Tryz.func273
theorem L6 n:ah Tryz.prog TE (zL n):=MKS n [(26,.lp [.r 8 .I] 0 [])] (.c (TF n) .n) @Tryz.func196
theorem Il n:ah Tryz.prog TE (wI n):=MKS n [] (.c (L6 n) .n) @Tryz.func272
theorem Yz n:ah Tryz.prog TE (IC n):=MKS n [] (.c (Il n) .n) @Tryz.func190
theorem Yp n:ah Tryz.prog TE (Iy n):=MKS n [] (.c (Yz n) .n) @Tryz.func189
theorem NI n:ah Tryz.prog TE (AL n):=MKS n [(26,.lp [.r 8 .I] 0 [])] (.c (Yp n) .n) @Tryz.func192
theorem JI n:ah Tryz.prog TE (xQ n):=MKS n [] (.c (NI n) .n) @Tryz.func114
theorem acZ n:ah Tryz.prog TE (MS n):=MKS n [] (.c (DC n) (.c (JI n) .n)) @Tryz.func110
theorem acU n:ah Tryz.prog TE (MB n):=MKS n [(58,.lp [.w (.own .s),.r 3 (.own 1),.r 11 .I] 0 [.w (.own .s),.r 3 (.own 1)]),(122,.lp [.w (.own .s),.r 3 (.own 2),.r 27 .I,.o 0 .dead,.o 1 .dead] 2 [.w (.own .s),.r 3 (.own 2),.o 0 .dead,.o 1 .dead])] .n @Tryz.func112
theorem acE n:ah Tryz.prog TE (MK n):=MKS n [(58,.lp [.r 9 .I,.o 0 (.mp .b)] 0 [.o 0 .dead]),(7474,.jn [.r 15 .B] false)] .n @Tryz.func111
theorem Dt n:ah Tryz.prog TE (Mw n):=MKS n [(6,.jn [.r 18 .B] false),(58,.lp [.r 22 .I] 0 []),(122,.lp [.r 51 .I] 4 []),(7474,.jn [.r 35 .B] false),(7833,.jn [.r 71 .B] false),(29902,.lp [.r 39 .I,.o 1 .dead] 2 [.o 1 .dead])] (.c (qZ n) (.c (acp n) (.c (YK n) (.c (acZ n) (.c (acU n) (.c (acE n) .n)))))) @Tryz.func53
theorem RY n:ah Tryz.prog TE (QZ n):=MKS n [(58,.lp [.r 16 .I,.o 0 .dead] 0 [.o 0 .dead]),(3737,.jn [.r 48 .B] false)] .n @Tryz.func54
theorem ajc n:ah Tryz.prog TE (UG n):=MKS n [] .n @Tryz.func197
theorem Ik n:ah Tryz.prog TE (wH n):=MKS n [(26,.lp [.r 8 .I] 0 [])] (.c (ajc n) .n) @Tryz.func196
theorem ZT n:ah Tryz.prog TE (Z4 n):=MKS n [] (.c (Ik n) .n) @Tryz.func117
theorem ahM n:ah Tryz.prog TE (Q7 n):=MKS n [] .n @Tryz.func96
theorem acC n:ah Tryz.prog TE (Mv n):=MKS n [] (.c (ahM n) .n) @Tryz.func46
theorem aoy n:ah Tryz.prog TE (abx n):=MKS n [(58,.lp [.r 8 .I] 0 [])] .n @Tryz.func45
theorem kZ:∀n,ah Tryz.prog TE (qL n)/\ah Tryz.prog TE (JN n)|0=>⟨iZ (fn:=Tryz.f48) (by kernel_rfl) λ_=>rfl,iZ (fn:=Tryz.f19) (by kernel_rfl) λ_=>rfl⟩|n+1=>⟨MKS n [(26,.lp [.r 13 .I] 0 [])] (.c (kZ n).2 .n) @Tryz.func48,
  MKS n [] (.c (acC n) (.c (acL n) (.c (aoy n) (.c (kZ n).1 .n)))) @Tryz.func19⟩
theorem ow n:ah Tryz.prog TE (JN n):=(kZ n).2
theorem KG:∀n,ah Tryz.prog TE (VZ n)/\ah Tryz.prog TE (Pp n)|0=>⟨iZ (fn:=Tryz.f56) (by kernel_rfl) λ_=>rfl,iZ (fn:=Tryz.f118) (by kernel_rfl) λ_=>rfl⟩|n+1=>⟨MKS n [(234,.jn [.r 8 .B] false),(942,.jn [.r 8 .B] false),(7549,.jn [.r 8 .B] false),(15102,.jn [.r 8 .B] false),(120828,.jn [.r 161 .B] false),(966634,.lp [.r 11 .I] 1 [])] (.c (ZT n) (.c (KG n).2 (.c (ow n) .n))) @Tryz.func56,
  MKS n [(26,.lp [.r 11 .I] 0 [])] (.c (KG n).1 .n) @Tryz.func118⟩
theorem agN n:ah Tryz.prog TE (VZ n):=(KG n).1
end
section
open Go
def ZX(c:Carrier)s:=cond (decide (s<1)) true (cond (decide (8<s)) true (cond (decide (0<(c.elems.length:Int))) (s !=(c.elems.length:Int)) false))
def G9:List Carrier->List Int->Bool|c::a,s::b=>!ZX c s&&G9 a b|_,_=>true
def rP(e:Env)sz:=!(sz.length:Int)!=e.carriers.length&&G9 e.carriers sz
theorem F9{e sz}(h:rP e sz=true):sz.length=e.carriers.length:=by unfold rP at h;simp only[qAb,qAS,bne_eq_false_iff_eq]at h;omega
def DR:List Val->Bool|a::b::r=>!decide (0<=bK a b)&&DR (b::r)|_=>true
def aaN(v:Val):=v.kind==1&&(v.name==[]&&((v.kids.length:Int)==0&&(decide ((-1000000000)<=v.n)&&decide (v.n<=1000000000))))
def aas(v:Val):=v.kind==2&&(v.name==[]&&((v.kids.length:Int)==0&&(v.n==0 ||v.n==1)))
def ai5(e:Env)(sz:List Int)nm:=(idx sz (gX (λc=>c.name==nm) 0 e.carriers)).getD 0
def SX(e:Env)sz(nm:Str)(v:Val):=v.kind==3&&(v.name==nm&&((v.kids.length:Int)==0&&(decide (0<=v.n)&&decide (v.n<ai5 e sz nm))))
mutual
def hasB(env:Env)(sz:List Int):Ty→Val→Bool
 | .mk k nm ks,v=>cond (k==1) (aaN v) (cond (k==2) (aas v) (cond (k==3) (SX env sz nm v) (cond (k==4) (v.kind==4&&(v.n==0&&(v.name==[]&&((v.kids.length:Int)==2&&VA env sz ks v.kids))))
   ((v.kind==5&&(v.n==0&&(v.name==[]&&!(decide (256<(v.kids.length:Int))))))&&(avb env sz ks v.kids&&DR v.kids)))))
def VA(env:Env)(sz:List Int):List Ty→List Val→Bool
 |[],_=>true
 |t::ts,vs=>match vs with
  |[]=>true
  |v::vs=>hasB env sz t v&&VA env sz ts vs
def avb(env:Env)(sz:List Int):List Ty→List Val→Bool
 |[],_=>true
 |t::_,vs=>vs.all fun v=>hasB env sz t v
end
def Od(c:Int):=decide (97<=c)&&decide (c<=122) ||decide (65<=c)&&decide (c<=90)
def aaR(c:Int):=decide (48<=c)&&decide (c<=57)
def Aq c:=Od c ||(aaR c ||c==95)
theorem UK n c:Ee n c=some (Od c):=by unfold Ee Od;cases decide (97<=c)<;>cases decide (c<=122)<;>cases decide (65<=c)<;>rfl
theorem abG n c:vB n c=some (Od c):=by unfold vB Od;cases decide (97<=c)<;>cases decide (c<=122)<;>cases decide (65<=c)<;>rfl
theorem an5 n c:Np n c=some (aaR c):=by unfold Np aaR;cases decide (48<=c)<;>rfl
theorem as6 n c:Bh n c=some (aaR c):=by unfold Bh aaR;cases decide (48<=c)<;>rfl
theorem akx n c:Ku n c=some (Aq c):=by unfold Ku Aq;rw[UK,an5];cases Od c<;>cases aaR c<;>rfl
theorem aqa p0 l:Ev (λn=>J9 n p0 l) (l.any λx=>x==p0):=by
 unfold J9;have h:=qM l (λn k i=>ap7 n p0 l k i) (λ_ x=>some (x==p0)) (λx=>x==p0) true (λn k i=>rfl) (λx _=>Ev.ret _);refine Ev.bind h ?_;cases l.any λx=>x==p0
 ·exact Ev.ret _
 exact Ev.ret _
def kws:List Str:=[[116,114,117,101],[102,97,108,115,101],[110,111,116],[111,114],[102,111,114,97,108,108],[101,120,105,115,116,115],[105,110],[110,111,116,105,110],[115,117,98],[109,111,100],[102,117,110],[99,97,114,100],[109,105,110],[109,97,120],[100,111,109],[114,97,110],[80,79,87],[105,110,116],[98,111,111,108],[115,101,116],[112,97,105,114]]
def kwB s:=kws.any λx=>x==s
theorem anE s:Ev (λn=>Ht n s) (kwB s):=by unfold Ht;exact Ev.bind (aqa s _) (Ev.ret _)
theorem chainB a b:cond a (some a) (some b)=some (a ||b):=by cases a<;>rfl
theorem ah9 n s:Gx n s=some (kwB s):=by
 unfold Gx;simp only[chainB,qAa];have h:∀b:Bool,cond b (some true) (some false)=some b:=λb=>by cases b<;>rfl
 rw[h];simp only[kwB,kws,qCE,List.any_nil,qDm];simp only[BEq.comm (a:=s)]
def ident(s:Str):=match s with|[]=>false|c::a=>decide (a.length<16)&&(Od c.toNat&&(!(kwB (c::a))&&a.all λc=>Aq (c.toNat:Int)))
theorem qd{α:Type} p (l:List α):l.any (λx=>!p x)=!l.all p:=by
 induction l with|nil=>rfl|cons x l i=>simp[i]
theorem pF s:Ev (λn=>fK n s) (ident s):=by
 unfold fK;cases s with|nil=>exact Ev.of λn=>rfl|cons c a=>
  have h:Ev (λn=>BI n (c::a) n 0) (cond ((c::a).any λc=>!(Aq (c.toNat:Int))) (.rt false) (.nx ())):=by
   refine qM (c::a) (λn k i=>BI n (c::a) k i) (λ_ x=>some (!(Aq (x.toNat:Int)))) (λx=>!(Aq (x.toNat:Int))) false (λn k i=>?_) (λx _=>Ev.ret _);show cond _ _ _=_;congr 1;rw[O7];cases idx (c::a) i with|none=>rfl|some x=>simp only[qAx,qAa,akx];rfl
  have b:nC (c::a) 0=some (c.toNat:Int):=by rw[O7];rfl
  have e:((c::a)==([]:Str))=false:=by simp
  simp only[e,cond_false,b,qAa,UK,ah9];by_cases f:a.length<16;·have d:decide (16<((c::a).length:Int))=false:=decide_eq_false (by simp;omega);simp only[d,cond_false,ident,decide_eq_true f,qAw];cases l:Od (c.toNat:Int)with|false=>exact Ev.ret _|true=>
    cases g:kwB (c::a)with|true=>exact Ev.ret _|false=>
     simp only[qAr,cond_false,qAa,qAw,qBd];refine Ev.bind h ?_;rw[qd];simp only[qBK,Aq,l,qCp,qAw];cases a.all λc=>Od (c.toNat:Int) ||(aaR (c.toNat:Int) ||(c.toNat:Int)==95)
     ·exact Ev.ret _
     exact Ev.ret _
  have d:decide (16<((c::a).length:Int))=true:=decide_eq_true (by simp;omega);simp only[d,cond_true,qAa,ident,decide_eq_false f,qBn];exact Ev.ret _
theorem oH s:Ev (λn=>gZ n s) (ident s):=by
 unfold gZ;cases s with|nil=>exact Ev.of λn=>rfl|cons c b=>
  have h:Ev (λn=>Fq n (c::b) n 1) (cond (b.any λc=>!(Aq (c.toNat:Int))) (.rt false) (.nx ())):=by
   refine af3 (c::b) (λn k i=>Fq n (c::b) k i) (λ_ x=>some (!(Aq (x.toNat:Int)))) (λx=>!(Aq (x.toNat:Int))) false (λn k i=>?_) (λx _=>Ev.ret _) [c] b rfl;show cond _ _ _=_;congr 1;rw[O7];cases idx (c::b) i with|none=>rfl|some x=>simp only[qAx,qAa,abG,as6,Aq];cases Od (x.toNat:Int)<;>cases aaR (x.toNat:Int)<;>rfl
  have d:nC (c::b) 0=some (c.toNat:Int):=by rw[O7];rfl
  have e:decide (((c::b).length:Int)<1)=false:=decide_eq_false (by simp;omega);simp only[e,cond_false,d,qAa,abG];by_cases l:b.length<16;·have f:decide (16<((c::b).length:Int))=false:=decide_eq_false (by simp;omega);simp only[f,cond_false,ident,decide_eq_true l,qAw];cases t:Od (c.toNat:Int)with|false=>exact Ev.ret _|true=>
    simp only[qAr,cond_false,qAw];refine Ev.bind (a:=kwB (c::b)) (Ev.bind (anE _) (Ev.ret _)) ?_;cases g:kwB (c::b)with|true=>exact Ev.ret _|false=>
     simp only[cond_false,qAw,qBd];refine Ev.bind h ?_;rw[qd];cases b.all λc=>Aq (c.toNat:Int)
     ·exact Ev.ret _
     exact Ev.ret _
  have f:decide (16<((c::b).length:Int))=true:=decide_eq_true (by simp;omega);simp only[f,cond_true,qAa,ident,decide_eq_false l,qBn];exact Ev.ret _
def abS(s:Str):Str:=if s.getLast? =some 39 then s.dropLast else s
theorem aeJ{α}(s:List α) k (h:k<=s.length):jM s 0 k=some (s.take k):=by unfold jM;rw[if_pos (by omega)];simp
theorem amT n s (hs:s.length<=9223372036854775807):strings_TrimSuffix n s [39]=some (abS s):=by
 unfold strings_TrimSuffix mW ny;rcases qDH s with rfl|⟨t,c,rfl⟩
 ·rfl
 have l:((t++[c]).length:Int) - (([39]:Str).length:Int)=(t.length:Int):=by simp
 have d:decide ((([39]:Str).length:Int)<=((t++[c]).length:Int))=true:=decide_eq_true (by simp;omega);simp only[qDI]at hs|-;rw[l,d,wrap64 (by omega) (by simp at hs;omega)];have a:jM (t++[c]) (t.length:Int) ((t++[c]).length:Int)=some [c]:=by unfold jM;rw[if_pos (by simp;omega)];simp
 have b:jM (t++[c]) 0 (t.length:Int)=some t:=by rw[aeJ _ _ (by simp)];simp
 simp only[cond_true,a,b,qAa];unfold abS;rw[qDO,qDP];by_cases h:c=39;·subst h;simp
 have:(([c]:Str)==[39])=false:=by simp[h]
 rw[this,if_neg (by simpa using h)];rfl
def named s:=ident (abS s)
theorem adb s (hs:s.length<=9223372036854775807):Ev (λn=>u6 n s) (named s):=by unfold u6;simp only[amT _ s hs,qAa];exact Ev.bind (pF _) (Ev.ret _)
theorem avu{s}(h:ident s=true):∀c∈s,Aq c.toNat=true:=by
 cases s with|nil=>cases h|cons c b=>
  simp only[ident,qAb,decide_eq_true_eq,qAJ]at h;intro x a;rcases qAh.1 a with rfl|a
  ·simp[Aq,h.2.1]
  exact h.2.2.2 x a
theorem ac6 s:Ev (λn=>JO n s) (named s):=by
 unfold JO;have p:Ev (λn=>LA n s) (decide (s.getLast? =some 39)&&ident s.dropLast):=by
  unfold LA;rcases qDH s with rfl|⟨t,c,rfl⟩
  ·exact Ev.ret _
  simp only[qDI,qDO,qDP];cases t with
  |nil=>have b:decide (1<(([]++[c]:Str).length:Int))=false:=rfl;simp only[b,cond_false,qAa];have:ident ([]:Str)=false:=rfl;rw[this,qBO];exact Ev.ret _
  |cons d t=>
   have b:decide (1<((d::t++[c]:Str).length:Int))=true:=decide_eq_true (by simp;omega);have l:(((d::t++[c]:Str).length:Int) - 1)=((d::t).length:Int):=by simp
   have g:nC (d::t++[c]) (((d::t++[c]:Str).length:Int) - 1)=some (c.toNat:Int):=by rw[l,O7,show(d::t++[c]:Str)=(d::t)++c::[]from rfl,gV];rfl
   have i:jM (d::t++[c]) 0 (((d::t++[c]:Str).length:Int) - 1)=some (d::t):=by rw[l,aeJ _ _ (by simp)];simp
   simp only[b,cond_true,g,i,qAa];by_cases f:c=39;·subst f;simp only[show((((39:UInt8).toNat:Nat):Int)==39)=true from rfl,cond_true,decide_true,qAw];exact Ev.bind (Ev.bind (oH _) (Ev.ret _)) (Ev.ret _)
   have e:(((c.toNat:Nat):Int)==39)=false:=by
    apply beq_false_of_ne;intro h;apply f;have:c.toNat=39:=by omega
    exact UInt8.toNat_inj.1 this
   rw[e];have j:decide (some c=some (39:UInt8))=false:=decide_eq_false (by simpa using f);simp only[cond_false,qAa,j,qBn];exact Ev.ret _
 refine Ev.bind (a:=named s) ?_ (Ev.ret _);refine Ev.bind (oH s) ?_;unfold named abS;by_cases q:s.getLast? =some 39
 ·have k:ident s=false:=by
   cases h:ident s with
   |false=>rfl|true=>have:=avu h 39 (qDQ q);cases this
  rw[k,if_pos q];rw[decide_eq_true q,qAw]at p;exact Ev.bind p (Ev.ret _)
 rw[if_neg q];rw[decide_eq_false q,qBn]at p;cases ident s;·exact Ev.bind p (Ev.ret _)
 exact Ev.ret _
theorem Ty.ind{P:Ty->Prop}(h:∀k n s,(∀t∈s,P t)->P (.mk k n s)) t:P t:=by
 match t with| .mk k n s=>exact h k n s λu _=>Ty.ind h u
decreasing_by
 rename_i a;have:=qCM a
 grind
def iN(k:Int)nm(len)(d:Int):=
 !(k==2&&decide (1<d))&&((((k==1 ||(k==2 ||k==3))&&len==0) ||((k==4&&len==2) ||(k==5&&len==1)))&&cond (k==3) (ident nm) (nm==[]))
mutual
def pf:Ty→Int→Int→Bool×Int
 | .mk k nm ks,d,c=>cond ((decide (c+1≤16)&&decide (d≤6))&&iN k nm ks.length d) (mX ks (d+1) (c+1)) (false,c+1)
def mX:List Ty→Int→Int→Bool×Int
 |[],_,c=>(true,c)
 |t::ts,d,c=>cond (pf t d c).1 (mX ts d (pf t d c).2) (false,(pf t d c).2)
end
mutual
theorem abR:∀(t:Ty) (d c:Int),(pf t d c).1=true→c<(pf t d c).2∧(pf t d c).2≤16
 | .mk k nm ks,d,c,h=>by
  simp only[pf]at h⊢;cases hb:((decide (c+1≤16)&&decide (d≤6))&&iN k nm ks.length d)with
  |false=>rw[hb]at h;cases h
  |true=>
   rw[hb]at h;simp only[cond_true]at h⊢;simp only[qAb,decide_eq_true_eq]at hb;have:=apS ks (d+1) (c+1) h;omega
theorem apS:∀(ts:List Ty) (d c:Int),(mX ts d c).1=true→c≤(mX ts d c).2∧(c≤16→(mX ts d c).2≤16)
 |[],_,c,_=>by simp[mX]
 |t::ts,d,c,h=>by
  simp only[mX]at h⊢;cases hb:(pf t d c).1 with
  |false=>rw[hb]at h;cases h
  |true=>
   rw[hb]at h;simp only[cond_true]at h⊢;have h1:=abR t d c hb;have h2:=apS ts d _ h;exact⟨by omega,fun _=>h2.2 h1.2⟩
end
theorem aBo n c d (h0:0<=c)(h:c<=16):ku n c 16 6 d=some (decide (c+1<=16)&&decide (d<=6),c+1):=by
 unfold ku;rw[wrap64 (by omega) (by omega)]
 grind
def aDY t:=∀d c:Int,1<=d->d<=7->0<=c->c<=16->Ev (λn=>gQ n c 16 6 t d (decide (1<d))) (pf t d c)
theorem auK d:∀a i c,0<=i->(∃j,0<=j/\(mX a d c).1=false/\jZ (τ:=Int) (λi x s=>cond (!(pf x d s).1) (.rt (i,(pf x d s).2)) (.nx (pf x d s).2)) (λs=>s) i a c=.rt (j,(mX a d c).2))∨(mX a d c).1=true/\jZ (ρ:=Int×Int) (λi x s=>cond (!(pf x d s).1) (.rt (i,(pf x d s).2)) (.nx (pf x d s).2)) (λs=>s) i a c=.nx (mX a d c).2
 |[],i,c,_=>.inr ⟨rfl,rfl⟩|t::a,i,c,h=>by
  simp only[mX,jZ];cases b:(pf t d c).1 with|false=>exact .inl ⟨i,h,rfl,rfl⟩|true=>exact auK d a (i+1) _ (by omega)
theorem axX ts (h:∀t∈ts,aDY t) d c (A:1<=d)(p:d<=6)(h0:0<=c)(q:c<=16):Ev (λn=>eB n ts c 16 6 d) (!(mX ts (d+1) c).1,(mX ts (d+1) c).2):=by
 refine Ev.succ ?_;show Ev (λn=>nY n _ _ _ _ ts c 16 6 d) _;unfold nY;have l:=NS ts (λn k i s=>BK n (j6 n) (eB n) (gQ n) (eX n) ts 16 6 d k (i,s))
  (λn i x s=>(eX n x s 16 6 d).bind λx2=>cond x2.1 (some (.rt (i,x2.2))) (some (.nx x2.2))) (λi x s=>cond (!(pf x (d+1) s).1) (.rt (i,(pf x (d+1) s).2)) (.nx (pf x (d+1) s).2)) (λs=>s) (λ_ _ s=>0<=s/\s<=16)
  (λn k i s=>by
   show cond _ _ _=_;congr 1;congr 1;funext x;dsimp only;cases eX n x s 16 6 d with|none=>rfl|some b=>obtain⟨b,e⟩:=b;cases b<;>rfl)
  (λi x u s v o=>⟨by
   have f:Ev (λn=>eX n x s 16 6 d) (!(pf x (d+1) s).1,(pf x (d+1) s).2):=by refine Ev.succ ?_;show Ev (λn=>oG n _ _ _ _ x s 16 6 d) _;unfold oG;have:=h x v (d+1) s (by omega) (by omega) o.1 o.2;rw[decide_eq_true (show 1<d+1 by omega)]at this;rw[wrap64 (by omega) (by omega)];exact Ev.bind this (Ev.ret _)
   refine Ev.bind f ?_;cases(pf x (d+1) s).1;·exact Ev.ret _
   exact Ev.ret _,λs' g=>by
   cases m:(pf x (d+1) s).1 with|false=>rw[m]at g;cases g|true=>rw[m]at g;simp only[qAr,cond_false,LR.nx.injEq]at g;have:=abR x (d+1) s m;omega⟩) (s0:=c) ⟨h0,q⟩
 rcases auK (d+1) ts 0 c (qBJ _)with⟨j,w,y,r⟩|⟨z,r⟩
 ·rw[r]at l;refine Ev.bind (a:=(j,(mX ts (d+1) c).2)) (Ev.succ ?_) ?_
  ·show Ev (λn=>jA n _ _ _ _ ts c 16 6 d) _;unfold jA;exact Ev.bind l (Ev.ret _)
  rw[y];simp only[decide_eq_true w];exact Ev.ret _
 rw[r]at l;refine Ev.bind (a:=(-1,(mX ts (d+1) c).2)) (Ev.succ ?_) ?_;·show Ev (λn=>jA n _ _ _ _ ts c 16 6 d) _;unfold jA;exact Ev.bind l (Ev.ret _)
 rw[z];exact Ev.ret _
theorem apn(len:Nat)(m:Nat):((len)!=(m:Int))=!len==m:=by grind
theorem fits:∀t:Ty,aDY t:=Ty.ind λk b s r d c u v w y=>by
 refine Ev.succ ?_;show Ev (λn=>qN n _ _ _ _ c 16 6 (.mk k b s) d (decide (1<d))) _;unfold qN;simp only[aBo _ c d w y,qAa,pf,Ty.kind,Ty.name,Ty.kids];cases e:(decide (c+1<=16)&&decide (d<=6))with|false=>exact Ev.ret _|true=>
  simp only[qAb,decide_eq_true_eq]at e;have z:=axX s r d (c+1) u e.2 (by omega) e.1;simp only[qAr,cond_false,qAw]
  -- the end: the number of kids, the name, the kids
  have h:∀m:Nat,Ev (λn=>(((cond ((s.length:Int)!=(m:Int)) (some true) (cond (k !=3) (some (!(b==([]:Str)))) (some false))):Option Bool).bind λ(A:Bool)=>(cond A (some (false,c+1)) ((eB n s (c+1) 16 6 d).bind λ(x:Bool×Int)=>some ((!x.1),x.2)))))
    (cond ((s.length==m)&&cond (k==3) true (b==[])) (mX s (d+1) (c+1)) (false,c+1)):=λm=>by
   rw[apn];cases s.length==m with|false=>exact Ev.ret _|true=>
    simp only[qAr,cond_false,qAw,bne];have i:Ev (λn=>(eB n s (c+1) 16 6 d).bind λ(x:Bool×Int)=>some ((!x.1),x.2)) (mX s (d+1) (c+1)):=by refine Ev.bind z ?_;simp only[qCq];exact Ev.ret _
    cases k==3 with|true=>exact i|false=>
     simp only[qBd,cond_true,qAa,cond_false];cases b==([]:Str)with|false=>exact Ev.ret _|true=>exact i
  by_cases f:k=1;·subst f;have:=h 0;simpa[iN]using this
  by_cases g:k=2;·subst g;cases p:decide (1<d)with
   |true=>
    have:iN 2 b s.length d=false:=by simp[iN,p]
    simp only[this,cond_false];exact Ev.of λn=>by simp
   |false=>have:=h 0;simpa[iN,p]using this
  by_cases j:k=3
  ·subst j;simp only[show((3:Int)==1)=false from rfl,show((3:Int)==2)=false from rfl,show((3:Int)==3)=true from rfl,cond_false,cond_true];refine Ev.bind (a:=cond (ident b) (.nx 0) (.rt (false,c+1))) (Ev.bind (pF b) ?_) ?_
   ·cases ident b
    ·exact Ev.ret _
    exact Ev.ret _
   cases q:ident b with
   |false=>
    have:iN 3 b s.length d=false:=by simp[iN,q]
    rw[this];exact Ev.ret _
   |true=>have:=h 0;simpa[iN,q]using this
  by_cases l:k=4;·subst l;have:=h 2;simpa[iN]using this
  by_cases o:k=5;·subst o;have:=h 1;simpa[iN]using this
  have:iN k b s.length d=false:=by simp[iN,f,g,j,l,o]
  rw[this];refine Ev.of λn=>?_;have B:=beq_false_of_ne f;have C:=beq_false_of_ne g;have D:=beq_false_of_ne j;have E:=beq_false_of_ne l;have F:=beq_false_of_ne o;simp only[B,C,D,E,F,cond_false,qAa,LR.el]
def dI t:=(pf t 1 0).1
theorem rD t:Ev (λn=>oC n t) (dI t):=by have:=fits t 1 0 (by omega) (by omega) (by omega) (by omega);exact Ev.bind this (Ev.ret _)
def pt t d c:=cond (pf t d c).1 (pf t d c).2 (-1)
def aEN t:=∀d c:Int,1<=d->d<=7->0<=c->c<=16->Ev (λn=>yR n t d c) (pt t d c)
theorem atN d:∀a c,0<=c->gD (τ:=Int) (λx s=>cond (decide (pt x d s<0)) (.rt (-1)) (.nx (pt x d s))) (λs=>s) a c=cond (mX a d c).1 (.nx (mX a d c).2) (.rt (-1))
 |[],c,_=>rfl|t::a,c,g=>by
  simp only[mX,gD];by_cases b:(pf t d c).1=true
  ·have i:=abR t d c b;have f:pt t d c=(pf t d c).2:=by simp only[pt,b,cond_true]
   have e:decide ((pf t d c).2<0)=false:=decide_eq_false (by omega);simp only[f,e,b,cond_true,cond_false];exact atN d a (pf t d c).2 (by omega)
  have h:(pf t d c).1=false:=by simpa using b
  have f:pt t d c= -1:=by simp only[pt,h,cond_false]
  have e:decide (pt t d c<0)=true:=decide_eq_true (by omega);simp only[e,h,cond_true,cond_false]
theorem typed:∀t:Ty,aEN t:=Ty.ind λk f e H d c S I T U=>by
 refine Ev.succ ?_;show Ev (λn=>Mj n _ (.mk k f e) d c) _;unfold Mj;simp only[pt,pf,Ty.kind,Ty.name,Ty.kids];rw[wrap64 (by omega) (by omega)];by_cases o:d<=6
 case neg=>rw[decide_eq_true (show 6<d by omega),decide_eq_false o];simp only[qBO,qBn,cond_false];exact Ev.ret _
 by_cases v:c+1<=16
 case neg=>rw[decide_eq_false (show ¬6<d by omega),decide_eq_true (show 16<c+1 by omega),decide_eq_false v];simp only[qBn,cond_false,cond_true];exact Ev.ret _
 rw[decide_eq_false (show ¬6<d by omega),decide_eq_false (show ¬16<c+1 by omega),decide_eq_true o,decide_eq_true v];simp only[cond_false,qAw];have l:=UD e (λn E i s=>Ky n (yR n) (.mk k f e) d E (s,i)) (λn x s=>(yR n x (IntKind.wrap .i64 (d+1)) s).bind λx2=>cond (decide (x2<0)) (some (.rt (-1))) (some (.nx x2)))
  (λx s=>cond (decide (pt x (d+1) s<0)) (.rt (-1)) (.nx (pt x (d+1) s))) (λs=>s) (λ_ s=>0<=s/\s<=16)
  (λn E i s=>by
   show cond _ _ _=_;congr 1;show(idx e i).bind _=_;congr 1;funext x;dsimp only;cases yR n x (IntKind.wrap .i64 (d+1)) s with|none=>rfl|some b=>simp only[qAa];cases decide (b<0)<;>rfl)
  (λx J s K F=>⟨by
   rw[wrap64 (by omega) (by omega)];refine Ev.bind (H x K (d+1) s (by omega) (by omega) F.1 F.2) ?_;cases decide (pt x (d+1) s<0);·exact Ev.ret _
   exact Ev.ret _,λs' q=>by
   cases w:decide (pt x (d+1) s<0)with|true=>rw[w]at q;cases q|false=>
    rw[w]at q;simp only[cond_false,LR.nx.injEq]at q;have g:¬pt x (d+1) s<0:=of_decide_eq_false w;subst q;unfold pt at g|-;cases u:(pf x (d+1) s).1 with|false=>rw[u]at g;simp at g|true=>have:=abR x (d+1) s u;simp only[cond_true];omega⟩) (s0:=c+1) ⟨by omega,v⟩
 rw[atN _ _ _ (by omega)]at l;have j:Ev (λn=>(Ky n (yR n) (.mk k f e) d n (c+1,0)).bind (LR.el (λ(y:Int)=>some y) (λr=>some r))) (cond (mX e (d+1) (c+1)).1 (mX e (d+1) (c+1)).2 (-1)):=by
  refine Ev.bind l ?_;cases(mX e (d+1) (c+1)).1;·exact Ev.ret _
  exact Ev.ret _
 have h:∀m:Nat,Ev (λn=>(((cond ((e.length:Int)!=(m:Int)) (some true) (cond (k==3) ((gZ n f).bind λ(L:Bool)=>(cond (!L) (some true) (cond (k !=3) (some (!(f==([]:Str)))) (some false)))) (cond (k !=3) (some (!(f==([]:Str)))) (some false)))):Option Bool).bind λ(M:Bool)=>(cond M (some (-1)) ((Ky n (yR n) (.mk k f e) d n (c+1,0)).bind (LR.el (λ(y:Int)=>some y) (λr=>some r))))))
   (cond ((e.length==m)&&cond (k==3) (ident f) (f==[])) (cond (mX e (d+1) (c+1)).1 (mX e (d+1) (c+1)).2 (-1)) (-1)):=λm=>by
  rw[apn];cases e.length==m with|false=>exact Ev.ret _|true=>
   simp only[qAr,cond_false,qAw,bne];cases k==3 with
   |true=>
    simp only[cond_true,qAr,cond_false];refine Ev.bind (a:=!(ident f)) (Ev.bind (oH f) ?_) ?_
    ·cases ident f
     ·exact Ev.ret _
     exact Ev.ret _
    cases ident f;·exact Ev.ret _
    exact j
   |false=>
    simp only[cond_false,qBd,cond_true,qAa];cases f==([]:Str)with|false=>exact Ev.ret _|true=>exact j
 have p:∀b:Bool,(cond (cond b (mX e (d+1) (c+1)) (false,c+1)).1 (cond b (mX e (d+1) (c+1)) (false,c+1)).2 (-1):Int)=cond b (cond (mX e (d+1) (c+1)).1 (mX e (d+1) (c+1)).2 (-1)) (-1):=λb=>by cases b<;>rfl
 rw[p];by_cases z:k=1;·subst z;have:=h 0;simpa[iN]using this
 by_cases A:k=2;·subst A;cases G:decide (1<d)with
  |true=>
   have:iN 2 f e.length d=false:=by simp[iN,G]
   rw[this];exact Ev.of λn=>by simp
  |false=>have:=h 0;simpa[iN,G]using this
 by_cases B:k=3;·subst B;have:=h 0;simpa[iN]using this
 by_cases C:k=4;·subst C;have:=h 2;simpa[iN]using this
 by_cases D:k=5;·subst D;have:=h 1;simpa[iN]using this
 have:iN k f e.length d=false:=by simp[iN,z,A,B,C,D]
 rw[this];refine Ev.of λn=>?_;have N:=beq_false_of_ne z;have O:=beq_false_of_ne A;have P:=beq_false_of_ne B;have Q:=beq_false_of_ne C;have R:=beq_false_of_ne D;simp only[N,O,P,Q,R,cond_false,qAa,LR.el]
theorem AJ t:Ev (λn=>sZ n t) (dI t):=by
 refine Ev.bind (typed t 1 0 (by omega) (by omega) (by omega) (by omega)) ?_;unfold pt dI;cases h:(pf t 1 0).1 with|false=>exact Ev.ret _|true=>have:=abR t 1 0 h;simp only[cond_true];rw[decide_eq_true (by omega)];exact Ev.ret _
theorem Ze{α σ τ ρ}(f:α->σ->σ)(i:σ->τ):∀l s,gD (ρ:=ρ) (λx s=>.nx (f x s)) i l s=.nx (i (l.foldl (λs x=>f x s) s))|[],_=>rfl|x::a,s=>Ze f i a (f x s)
theorem qO{α σ τ ρ} l (L:Nat->Nat->Int->σ->Option (LR τ ρ))(t:Nat->α->σ->Option σ)(f:α->σ->σ)(a:σ->τ)(I:List α->σ->Prop)
  (b:∀n k i s,L n (k+1) i s=cond (decide (i<(l.length:Int))) ((idx l i).bind λx=>(t n x s).bind λs'=>L n k (i+1) s') (some (.nx (a s))))
  (c:∀x u s,x∈l->I (x::u) s->Ev (λn=>t n x s) (f x s)/\I u (f x s)) {s0} (h0:I l s0):Ev (λn=>L n n 0 s0) (.nx (a (l.foldl (λs x=>f x s) s0))):=by
 rw[<-Ze f a];refine UD l L (λn x s=>(t n x s).bind λs'=>some (.nx s')) (λx s=>.nx (f x s)) a I (λn k i s=>?_) (λx u s d e=>?_) h0
 ·rw[b];congr 1;congr 1;funext x
  grind
 obtain⟨g,j⟩:=c x u s d e;exact⟨Ev.bind g (Ev.ret _),λs' h=>by cases h;exact j⟩
theorem alc{α ρ} l (L:Nat->Nat->Int->Option (LR Unit ρ))(t:Nat->α->Option (LR Unit ρ)) p r
  (h:∀n k i,L n (k+1) i=cond (decide (i<(l.length:Int))) ((idx l i).bind λx=>(t n x).bind (LR.el (λ_=>L n k (i+1)) (λr=>some (.rt r)))) (some (.nx ())))
  (a:∀x∈l,Ev (λn=>t n x) (cond (p x) (.rt r) (.nx ()))):Ev (λn=>L n n 0) (cond (l.any p) (.rt r) (.nx ())):=by
 have:=UD l (λn k i (_:Unit)=>L n k i) (λn x _=>t n x) (λx _=>cond (p x) (.rt r) (.nx ())) (λ_=>()) (λ_ _=>True)
  (λn k i s=>by rw[h]) (λx u s b _=>⟨a x b,λ_ _=>trivial⟩) (s0:=()) trivial
 rw[R4]at this;exact this
theorem rA{α b}{l ys:List α}(h:l.length+ys.length<=1000000)(a:b<=1000):app b l ys=some (l++ys):=by
 unfold app;have:=qDc h a
 grind
theorem V7{α:Type}:∀(l s:List α),l.foldl (λs x=>s++[x]) s=s++l|[],s=>by simp|x::l,s=>by simp[V7 l]
theorem KJ{α} k:dO ([]:List (Str×α)) k=none:=rfl
theorem nk{α} p (m:List (Str×α)) k:dO (p::m) k=if p.1==k then some p.2 else dO m k:=by
 unfold dO
 grind
theorem abf{α} m k (v:α) k':dO (ko m k v) k'=if k==k' then some v else dO m k':=by
 induction m with
 |nil=>rw[ko,nk]|cons p m i=>
  simp only[ko];by_cases h:(p.1==k)=true
  ·have e:p.1=k:=by simpa using h
   rw[if_pos h,nk,nk,e]
   grind
  rw[if_neg h,nk,i,nk]
  grind
theorem BR{α} m k (v:α):(ko m k v).length<=m.length+1:=by
 induction m with|nil=>simp[ko]|cons p m i=>
  simp only[ko]
  grind
theorem J3{α m}(h:m.length<=1000000) k (v:α):wY m k v=some (ko m k v):=by
 unfold wY
 grind
theorem mem_keys{α}(m:List (Str×α)) k:k∈m.map (·.1)↔∃v,dO m k=some v:=by
 induction m with|nil=>simp[KJ]|cons p m i=>
  rw[nk];by_cases h:(p.1==k)=true;·simp_all
  grind
def fB{α:Type}(l:List (Str×α))(m:List (Str×α)):=l.foldl (λm p=>ko m p.1 p.2) m
theorem Nf{α}(l m:List (Str×α)):(fB l m).length<=m.length+l.length:=by
 induction l generalizing m with|nil=>simp[fB]|cons p l i=>have h:=i (ko m p.1 p.2);have a:=BR m p.1 p.2;simp only[fB,qBg,qAo]at h|-;omega
theorem Vp{α}(l l' m:List (Str×α)):fB (l++l') m=fB l' (fB l m):=by simp[fB]
theorem avp{α}(l m:List (Str×α)) k:k∈(fB l m).map (·.1)↔k∈m.map (·.1)∨k∈l.map (·.1):=by
 induction l generalizing m with
 |nil=>simp[fB]|cons p l i=>
  have a:=i (ko m p.1 p.2);have b:k∈(ko m p.1 p.2).map (·.1)↔k∈m.map (·.1)∨k=p.1:=by
   rw[mem_keys,mem_keys,abf];by_cases h:(p.1==k)=true
   ·rw[if_pos h];have e:p.1=k:=by simpa using h
    exact⟨λ_=>.inr e.symm,λ_=>⟨_,rfl⟩⟩
   rw[if_neg h];have e:k≠p.1:=λe=>h (by simp[e]);simp[e]
  rw[b]at a;simp only[fB,qBg,qAz,qAh]at a|-
  grind
theorem Oo{α}(l m:List (Str×α)) k (n:(l.map (·.1)).Nodup):dO (fB l m) k=match dO l k with|some v=>some v|none=>dO m k:=by
 induction l generalizing m with|nil=>rfl|cons p l i=>
  rw[qAz,qBX]at n;have a:=i (ko m p.1 p.2) n.2;simp only[fB,qBg]at a|-;rw[a,abf,nk];by_cases h:(p.1==k)=true
  ·rw[if_pos h,if_pos h];have e:p.1=k:=by simpa using h
   have b:dO l k=none:=by
    cases c:dO l k with|none=>rfl|some v=>exact absurd ((mem_keys l k).2 ⟨v,c⟩) (e▸n.1)
   rw[b]
  grind
theorem xU{α} l k (v:α)(h:(l.map (·.1)).Nodup):dO l k=some v↔(k,v)∈l:=by
 induction l with|nil=>simp[KJ]|cons p l i=>
  rw[nk,qAh]
  grind
theorem ahC{α}{l l':List (Str×α)}(p:l.Perm l')(a:(l.map (·.1)).Nodup) k:dO l k=dO l' k:=by
 have n:(l'.map (·.1)).Nodup:=(p.map _).nodup_iff.1 a;cases h:dO l k with|some v=>rw[xU _ _ _ a]at h;exact((xU _ _ _ n).2 (p.mem_iff.1 h)).symm|none=>
  cases b:dO l' k with|none=>rfl|some v=>rw[xU _ _ _ n]at b;rw[(xU _ _ _ a).2 (p.mem_iff.2 b)]at h;cases h
mutual
def yE(q:Int):Ty→Bool
 | .mk k _ ks=>k==q ||aoe q ks
def aoe(q:Int):List Ty→Bool
 |[]=>false
 |t::ts=>yE q t ||aoe q ts
end
theorem ZR q:∀s,aoe q s=s.any (yE q)|[]=>rfl|t::s=>by simp[aoe,ZR q s]
theorem asX q:∀t:Ty,Ev (λn=>nN n t q) (yE q t):=Ty.ind λk m s h=>by
 refine Ev.succ ?_;show Ev (λn=>yG n _ _ _ _ (.mk k m s) q) _;unfold yG;simp only[Ty.kind,Ty.kids,yE,ZR];have b:Ev (λn=>iq n s q) (s.any (yE q)):=by
  refine Ev.succ ?_;show Ev (λn=>mV n _ _ _ _ s q) _;unfold mV;refine Ev.bind (a:=gX (yE q) 0 s) (Ev.succ ?_) ?_;·show Ev (λn=>oz n _ _ _ _ s q) _;unfold oz;refine tC s (λn k i=>zQ n _ _ _ (kW n) s q k i) (λn x=>kW n x q) (yE q) (λn k i=>rfl) (λx c=>?_);refine Ev.succ ?_;show Ev (λn=>wm n _ _ _ _ x q) _;unfold wm;exact Ev.bind (h x c) (Ev.ret _)
  rw[qE _ _ _ (qBJ _)];exact Ev.ret _
 cases d:(k==q);·exact Ev.bind (Ev.bind b (Ev.ret _)) (Ev.ret _)
 exact Ev.bind (Ev.ret _) (Ev.ret _)
theorem aoq:∀t:Ty,Ev (λn=>tK n t) (yE 2 t):=Ty.ind λk m s a=>by
 refine Ev.succ ?_;show Ev (λn=>Dv n _ (.mk k m s)) _;unfold Dv;simp only[Ty.kind,yE,ZR];cases q:(k==2)
 ·have h:=qM s (λn b i=>QA n (tK n) (.mk k m s) b i) (λn x=>tK n x) (yE 2) true (λn k i=>rfl) a;simp only[cond_false,qCF];refine Ev.bind h ?_;cases s.any (yE 2)
  ·exact Ev.ret _
  exact Ev.ret _
 exact Ev.ret _
mutual
def dK:Ty→List Str
 | .mk k nm ks=>cond (k==3) [nm] (iL ks)
def iL:List Ty→List Str
 |[]=>[]
 |t::ts=>dK t++iL ts
end
mutual
def Iw:Ty→Bool
 | .mk k _ ks=>(decide (ks.length≤2)&&(k !=3 ||ks.length==0))&&Vr ks
def Vr:List Ty→Bool
 |[]=>true
 |t::ts=>Iw t&&Vr ts
end
theorem Oh:∀{s:List Ty},Vr s=true->∀t∈s,Iw t=true
 |[],_,t,h=>by cases h|u::s,h,t,a=>by
  simp only[Vr,qAb]at h;rcases qAh.1 a with rfl|a
  ·exact h.1
  exact Oh h.2 t a
theorem ahX:∀{s:List Ty} {t:Ty},t∈s->(dK t).length<=(iL s).length
 |[],t,h=>by cases h|u::s,t,a=>by
  simp only[iL,qAf];rcases qAh.1 a with rfl|a
  ·omega
  have:=ahX a;omega
theorem aDs{k nm len d}(h:iN k nm len d=true):len<=2/\(k=3->len=0):=by
 unfold iN at h
 grind
mutual
theorem aBI:∀(t:Ty) (d c:Int),(pf t d c).1=true→Iw t=true∧((dK t).length:Int)≤(pf t d c).2 - c
 | .mk k nm ks,d,c,h=>by
  simp only[pf]at h⊢;cases hb:((decide (c+1≤16)&&decide (d≤6))&&iN k nm ks.length d)with
  |false=>rw[hb]at h;cases h
  |true=>
   rw[hb]at h;simp only[cond_true]at h⊢;simp only[qAb]at hb;have hh:=aDs hb.2;have h1:=awT ks (d+1) (c+1) h;have h2:=apS ks (d+1) (c+1) h;constructor
   ·simp only[Iw,h1.1,qBE,qAb,decide_eq_true_eq,qBm,bne_iff_ne,beq_iff_eq];refine⟨hh.1,?_⟩;by_cases e:k=3
    ·exact .inr (hh.2 e)
    ·exact .inl e
   ·simp only[dK];cases k==3 with
    |true=>simp only[cond_true,qAL];omega
    |false=>simp only[cond_false];omega
theorem awT:∀(ts:List Ty) (d c:Int),(mX ts d c).1=true→Vr ts=true∧((iL ts).length:Int)≤(mX ts d c).2 - c
 |[],_,c,_=>by simp[mX,Vr,iL]
 |t::ts,d,c,h=>by
  simp only[mX]at h⊢;cases hb:(pf t d c).1 with
  |false=>rw[hb]at h;cases h
  |true=>
   rw[hb]at h;simp only[cond_true]at h⊢;have h1:=aBI t d c hb;have h2:=awT ts d _ h;simp only[Vr,h1.1,h2.1,qBE,iL,qAf];refine⟨trivial,?_⟩;omega
end
theorem aeb{t}(h:dI t=true):Iw t=true/\(dK t).length<=16:=by
 have a:=aBI t 1 0 h;have b:=abR t 1 0 h
 grind
theorem aj0:∀t:Ty,Iw t=true->(dK t).length<=16->Ev (λn=>zT n t) (dK t):=Ty.ind λk m b f o l=>by
 refine Ev.succ ?_;show Ev (λn=>E5 n _ (.mk k m b)) _;unfold E5;simp only[Ty.kind,dK]at l|-;simp only[Iw,qAb]at o;cases q:(k==3)with|true=>exact Ev.ret _|false=>
  rw[q]at l;have h:=qO b (λn e i s=>TY n (zT n) (.mk k m b) e (s,i)) (λn x s=>(zT n x).bind λx2=>app 16 s x2) (λx s=>s++dK x) (λs=>s) (λsuf s=>s.length+(iL suf).length<=16)
   (λn e i s=>by show cond _ _ _=_;congr 1;congr 1;simp only[qAZ];rfl)
   (λx suf s c g=>by
    simp only[iL,qAf]at g;refine⟨Ev.bind (f x c (Oh o.2 x c) (by have:=ahX c;omega)) ?_,?_⟩;·rw[rA (by omega) (by omega)];exact Ev.ret _
    simp;omega) (s0:=([]:List Str)) (by simpa using l)
  have j:∀(a:List Ty) (s:List Str),a.foldl (λs x=>s++dK x) s=s++iL a:=by
   intro a
   induction a with|nil=>intro s;simp[iL]|cons t a d=>intro s;simp[iL,d]
  rw[j]at h;exact Ev.bind h (Ev.ret _)
theorem avo:∀t:Ty,Iw t=true->∀m:List (Str×Bool),m.length+(dK t).length<=1000->Ev (λn=>oI n t m) (fB ((dK t).map λs=>(s,true)) m):=Ty.ind λk c a p b m l=>by
 refine Ev.succ ?_;show Ev (λn=>Af n _ (.mk k c a) m) _;unfold Af;simp only[Ty.kind,Ty.name,dK]at l|-;simp only[Iw,qAb,decide_eq_true_eq,qBm,beq_iff_eq,bne_iff_ne]at b;have o:∀(m:List (Str×Bool)),m.length+(iL a).length<=1000->Ev (λn=>DF n (oI n) (.mk k c a) n (0,m)) (.nx (fB ((iL a).map λs=>(s,true)) m)):=λm r=>by
  have h:=qO a (λn g i s=>DF n (oI n) (.mk k c a) g (i,s)) (λn x s=>oI n x s) (λx s=>fB ((dK x).map λs=>(s,true)) s) (λs=>s) (λsuf s=>s.length+(iL suf).length<=1000)
   (λn g i s=>rfl)
   (λx suf s j u=>by simp only[iL,qAf]at u;refine⟨p x j (Oh b.2 x j) s (by omega),?_⟩;have:=Nf ((dK x).map λs=>(s,true)) s;simp only[qAg]at this;omega) (s0:=m) r
  have w:∀(d:List Ty) (s:List (Str×Bool)),d.foldl (λs x=>fB ((dK x).map λs=>(s,true)) s) s=fB ((iL d).map λs=>(s,true)) s:=by
   intro d
   induction d with
   |nil=>intro s;rfl|cons t d f=>intro s;simp only[qBg,iL,qAX,Vp,f]
  grind
 cases q:(k==3)with
 |true=>
  have v:k=3:=by simpa using q
  have e:a=[]:=by
   rcases b.1.2 with h|h
   ·exact absurd v h
   exact qAI.1 h
  rw[q]at l;simp only[cond_true,qAL]at l|-;rw[J3 (by omega)];have y:=BR m c true;have:=o (ko m c true) (by rw[e];simp only[iL,qAC];omega);rw[e]at this|-;simp only[qAa];exact Ev.bind this (Ev.ret _)
 |false=>rw[q]at l;simp only[cond_false,qAa]at l|-;exact Ev.bind (o m l) (Ev.ret _)
theorem BN{t}(h:dI t=true):Ev (λn=>uY n t) (((fB ((dK t).map λs=>(s,true)) []).map (·.1)).mergeSort leS):=by refine Ev.bind (rD t) ?_;rw[h];obtain⟨a,b⟩:=aeb h;refine Ev.bind (avo t a [] (by simp;omega)) ?_;have:=Nf ((dK t).map λs=>(s,true)) [];simp at this;unfold nH;rw[if_pos (by omega)];exact Ev.ret _
theorem Oy t s:s∈((fB ((dK t).map λs=>(s,true)) []).map (·.1)).mergeSort leS↔s∈dK t:=by rw[List.mem_mergeSort,avp];simp
theorem asa:∀t:Ty,Iw t=true->Ev (λn=>qg n t) t:=Ty.ind λk m a d o=>by
 refine Ev.succ ?_;show Ev (λn=>yI n _ (.mk k m a)) _;unfold yI;simp only[Iw,qAb]at o;have h:=qO a (λn b i s=>KX n (qg n) (.mk k m a) b (i,s)) (λn x s=>(qg n x).bind λx2=>app 48 s [x2]) (λx s=>s++[x]) (λs=>s) (λsuf s=>s.length+suf.length<=2)
  (λn b i s=>by show cond _ _ _=_;congr 1;congr 1;simp only[qAZ];rfl)
  (λx suf s c e=>by
   simp at e;refine⟨Ev.bind (d x c (Oh o.2 x c)) ?_,?_⟩;·rw[rA (by simp;omega) (by omega)];exact Ev.ret _
   simp;omega) (s0:=([]:List Ty)) (by simpa using o.1.1)
 rw[V7]at h;exact Ev.bind h (Ev.ret _)
theorem adY:∀t:Ty,Iw t=true->Ev (λn=>vZ n t) t:=Ty.ind λk m a d o=>by
 refine Ev.succ ?_;show Ev (λn=>EN n _ (.mk k m a)) _;unfold EN;simp only[Iw,qAb]at o;have h:=qO a (λn b i s=>Vb n (vZ n) (.mk k m a) b (i,s)) (λn x s=>(vZ n x).bind λx2=>app 48 s [x2]) (λx s=>s++[x]) (λs=>s) (λsuf s=>s.length+suf.length<=2)
  (λn b i s=>by show cond _ _ _=_;congr 1;congr 1;simp only[qAZ];rfl)
  (λx suf s c e=>by
   simp at e;refine⟨Ev.bind (d x c (Oh o.2 x c)) ?_,?_⟩;·rw[rA (by simp;omega) (by omega)];exact Ev.ret _
   simp;omega) (s0:=([]:List Ty)) (by simpa using o.1.1)
 rw[V7]at h;exact Ev.bind h (Ev.ret _)
def dx(e:Env)s:=e.carriers.any λc=>c.name==s
def Mf(c:Carrier):=ident c.name&&(!decide (8<(c.elems.length:Int))&&c.elems.all ident)
def Cc env(d:Decl):=named d.name&&(dI d.ty&&!(yE 2 d.ty)&&(dK d.ty).all (dx env))
def Gy(e:Env):=(e.carriers.flatMap λc=>c.name::c.elems)++e.names.map (·.name)
def names2(e:Env):=e.carriers.map (·.name)++(e.carriers.flatMap (·.elems)++e.names.map (·.name))
def oW:List Str->List Str->Bool|_,[]=>true|p,x::s=>!p.any (·==x)&&oW (p++[x]) s
theorem alW:∀l p,oW p l=true↔l.Nodup/\∀x∈l,x∉p
 |[],p=>by simp[oW]|x::l,p=>by
  simp only[oW,qAb,alW l,qAS,qBX,qAh,List.any_eq_false,beq_iff_eq,qAn,qCH,or_false];constructor
  ·rintro⟨b,c,a⟩;refine⟨⟨λhx=>(a x hx) (.inr rfl),c⟩,?_⟩;rintro y (rfl|h)
   ·exact λhp=>b _ hp rfl
   exact λhp=>a y h (.inl hp)
  rintro⟨⟨b,c⟩,a⟩;refine⟨λy h e=>a x (.inl rfl) (e▸h),c,λy h hp=>?_⟩;rcases hp with hp|rfl
  ·exact a y (.inr h) hp
  exact b h
theorem ad6 l:oW [] l=true↔l.Nodup:=by rw[alW];simp
theorem ay6(cs:List Carrier):(cs.flatMap λc=>c.name::c.elems).Perm (cs.map (·.name)++cs.flatMap (·.elems)):=by
 induction cs with|nil=>simp|cons c cs i=>grind
theorem Ns env:(Gy env).Perm (names2 env):=by unfold Gy names2;rw[<-qAm];exact qCD _ (ay6 _)
theorem aD3 env:oW [] (Gy env)=oW [] (names2 env):=by
 have h:(oW [] (Gy env)=true)↔(oW [] (names2 env)=true):=by rw[ad6,ad6];exact(Ns env).nodup_iff
 grind
def aW env:=!(decide (8<(env.carriers.length:Int)) ||decide (64<(env.names.length:Int)))&&(env.carriers.all Mf&&(env.names.all (Cc env)&&oW [] (names2 env)))
theorem anR env s:Ev (λn=>DT n env s) (dx env s):=by refine Ev.bind (a:=dx env s) ?_ (Ev.ret _);refine Ev.bind (tC env.carriers (λn k i=>xW n env.carriers s k i) (λ_ x=>some (x.name==s)) (λc=>c.name==s) (λn k i=>rfl) (λx _=>Ev.ret _)) ?_;rw[qE _ _ _ (qBJ _)];exact Ev.ret _
theorem ar9 env {t}(h:dI t=true):Ev (λn=>Aj n env t) ((dK t).all (dx env)):=by
 refine Ev.bind (BN h) ?_;generalize b:((fB ((dK t).map λs=>(s,true)) []).map (·.1)).mergeSort leS=l;have m:∀s,s∈l↔s∈dK t:=λs=>by rw[<-b];exact Oy t s
 have f:=tC l (λn k i=>zy n l env.carriers env.names k i) (λn x=>DV n x env.carriers env.names) (λs=>!(dx env s)) (λn k i=>rfl) (λx _=>by exact Ev.bind (anR env x) (Ev.ret _))
 refine Ev.bind (a:=l.any λs=>!(dx env s)) (Ev.bind f ?_) ?_;·rw[qE _ _ _ (qBJ _)];exact Ev.ret _
 rw[qd,qCq];have:l.all (dx env)=(dK t).all (dx env):=by grind
 rw[this];exact Ev.ret _
theorem JL env s:Ev (λn=>mH n env s) (gX (λc=>c.name==s) 0 env.carriers):=by exact tC env.carriers (λn k i=>MI n env s k i) (λ_ x=>some (x.name==s)) (λc=>c.name==s) (λn k i=>rfl) (λx _=>Ev.ret _)
theorem alh(a:Int):decide (a<0)=!decide (0<=a):=by grind
theorem ae9 env {t}(h:dI t=true):Ev (λn=>Jp n env t) ((dK t).all (dx env)):=by
 obtain⟨b,c⟩:=aeb h;refine Ev.bind (aj0 t b c) ?_;have a:=qM (dK t) (λn k i=>adi n env (dK t) k i) (λn x=>(mH n env x).bind λx3=>some (decide (x3<0))) (λs=>!(dx env s)) false
  (λn k i=>by show cond _ _ _=_;congr 1;congr 1;simp only[qAZ];rfl)
  (λx _=>by refine Ev.bind (JL env x) ?_;rw[alh,qE _ _ _ (qBJ _)];exact Ev.ret _)
 rw[qd]at a;refine Ev.bind a ?_;cases(dK t).all (dx env);·exact Ev.ret _
 exact Ev.ret _
theorem asD env (h:(Gy env).length<=1000000):Ev (λn=>Av n env) (Gy env):=by
 unfold Av;simp only[Gy,qAf,qAg]at h;have g:=qO env.carriers (λn k i s=>Lc n env k (s,i)) (λn x s=>(app 16 s [x.name]).bind λx4=>app 16 x4 x.elems) (λx s=>s++(x.name::x.elems)) (λs=>s) (λsuf s=>s.length+(suf.flatMap λc=>c.name::c.elems).length<=1000000)
  (λn k i s=>by show cond _ _ _=_;congr 1;show(idx env.carriers i).bind _=_;congr 1;funext x;simp only[qAZ];rfl)
  (λx suf s l b=>by
   simp only[qBh,qAf,qAo]at b;refine⟨?_,?_⟩;·rw[rA (by simp only[qAL];omega) (by omega),qAa,rA (by simp only[qAf,qAL];omega) (by omega)];rw[qAm];exact Ev.ret _
   simp only[qAf,qAo];omega) (s0:=([]:List Str)) (by simp only[qAC];omega)
 have f:∀(a:List Carrier) (s:List Str),a.foldl (λs x=>s++(x.name::x.elems)) s=s++a.flatMap λc=>c.name::c.elems:=by
  intro a
  induction a with|nil=>intro s;simp|cons c a d=>intro s;rw[qBg,d];simp
 rw[f,qAs]at g;have j:=qO env.names (λn k i s=>Lb n env k (s,i)) (λn x s=>app 16 s [x.name]) (λx s=>s++[x.name]) (λs=>s) (λsuf s=>s.length+suf.length<=1000000)
  (λn k i s=>rfl)
  (λx suf s l b=>by
   simp only[qAo]at b;refine⟨?_,?_⟩;·rw[rA (by simp only[qAL];omega) (by omega)];exact Ev.ret _
   simp only[qAf,qAL];omega) (s0:=env.carriers.flatMap λc=>c.name::c.elems) (by omega)
 have e:∀(a:List Decl) (s:List Str),a.foldl (λs x=>s++[x.name]) s=s++a.map (·.name):=by
  intro a
  induction a with|nil=>intro s;simp|cons c a d=>intro s;rw[qBg,d];simp
 rw[e]at j;exact Ev.bind g (Ev.bind j (Ev.ret _))
theorem asB env (h:(names2 env).length<=1000000):Ev (λn=>J6 n env) (names2 env):=by
 unfold J6;simp only[names2,qAf,qAg]at h;have j:=qO env.carriers (λn k i s=>Un n env k (s,i)) (λn x s=>app 16 s [x.name]) (λx s=>s++[x.name]) (λs=>s) (λsuf s=>s.length+suf.length<=1000000)
  (λn k i s=>rfl)
  (λx suf s l b=>by
   simp only[qAo]at b;refine⟨?_,?_⟩;·rw[rA (by simp only[qAL];omega) (by omega)];exact Ev.ret _
   simp only[qAf,qAL];omega) (s0:=([]:List Str)) (by simp only[qAC];omega)
 have f:∀(a:List Carrier) (s:List Str),a.foldl (λs x=>s++[x.name]) s=s++a.map (·.name):=by
  intro a
  induction a with|nil=>intro s;simp|cons c a d=>intro s;rw[qBg,d];simp
 rw[f,qAs]at j;have m:=qO env.carriers (λn k i s=>Tw n env k (s,i)) (λn x s=>app 16 s x.elems) (λx s=>s++x.elems) (λs=>s) (λsuf s=>s.length+(suf.flatMap (·.elems)).length<=1000000)
  (λn k i s=>rfl)
  (λx suf s l b=>by
   simp only[qBh,qAf]at b;refine⟨?_,?_⟩;·rw[rA (by omega) (by omega)];exact Ev.ret _
   simp only[qAf];omega) (s0:=env.carriers.map (·.name)) (by simp only[qAg];omega)
 have e:∀(a:List Carrier) (s:List Str),a.foldl (λs x=>s++x.elems) s=s++a.flatMap (·.elems):=by
  intro a
  induction a with|nil=>intro s;simp|cons c a d=>intro s;rw[qBg,d];simp
 rw[e]at m;have o:=qO env.names (λn k i s=>Uu n env k (s,i)) (λn x s=>app 16 s [x.name]) (λx s=>s++[x.name]) (λs=>s) (λsuf s=>s.length+suf.length<=1000000)
  (λn k i s=>rfl)
  (λx suf s l b=>by
   simp only[qAo]at b;refine⟨?_,?_⟩;·rw[rA (by simp only[qAL];omega) (by omega)];exact Ev.ret _
   simp only[qAf,qAL];omega) (s0:=env.carriers.map (·.name)++env.carriers.flatMap (·.elems)) (by simp only[qAf,qAg];omega)
 have g:∀(a:List Decl) (s:List Str),a.foldl (λs x=>s++[x.name]) s=s++a.map (·.name):=by
  intro a
  induction a with|nil=>intro s;simp|cons c a d=>intro s;rw[qBg,d];simp
 rw[g,qAm]at o;exact Ev.bind j (Ev.bind m (Ev.bind o (Ev.ret _)))
theorem asH l (f:l.length<=1000000):Ev (λn=>AX n l) (oW [] l):=by
 unfold AX;have h:=UD l (λn k i s=>Lj n l k (i,s)) (λn x s=>(mel (dO s x) (some false) (λx3=>some x3):Option Bool).bind λs3=>cond s3 (some (.rt false)) ((wY s x true).bind λx2=>some (.nx x2))) (λx s=>cond ((dO s x).getD false) (.rt false) (.nx (ko s x true))) (λ_=>())
  (λsuf s=>s.length+suf.length<=1000000)
  (λn k i s=>by
   show cond _ _ _=_;congr 1;show(idx l i).bind _=_;congr 1;funext x;cases dO s x with|none=>simp only[mel,qAa,cond_false,qAZ];rfl|some b=>cases b<;>simp only[mel,qAa,cond_false,cond_true,qAZ];rfl)
  (λx suf s j a=>by
   simp only[qAo]at a;refine⟨?_,λs' e=>?_⟩;·rw[J3 (by omega)];cases dO s x with|none=>exact Ev.ret _|some b=>cases b<;>exact Ev.ret _
   cases c:(dO s x).getD false with|true=>rw[c]at e;cases e|false=>rw[c]at e;cases e;have:=BR s x true;omega) (s0:=([]:List (Str×Bool))) (by simpa using f)
 have d:∀(suf p:List Str) (s:List (Str×Bool)),(∀x,dO s x=if p.any (·==x)then some true else none)->gD (τ:=Unit) (λx s=>cond ((dO s x).getD false) (.rt false) (.nx (ko s x true))) (λ_=>()) suf s=cond (oW p suf) (.nx ()) (.rt false):=by
  intro suf
  induction suf with|nil=>intro p s _;rfl|cons x suf g=>
   intro p s a;simp only[gD,oW];rw[a x];cases c:p.any (·==x)with|true=>rfl|false=>
    simp only[qBN,if_false,qCs,cond_false,qBd,qAw];refine g (p++[x]) _ (λy=>?_);rw[abf,a y];simp only[List.any_append,qCE,List.any_nil,qDm];cases o:(x==y)with|true=>simp|false=>simp
 rw[d l [] [] (λx=>rfl)]at h;refine Ev.bind h ?_;cases oW [] l;·exact Ev.ret _
 exact Ev.ret _
theorem awD l:Ev (λn=>IX n l n 0) (cond (oW [] l) (.nx ()) (.rt false)):=by
 have h:=NS l (λn k i (_:Unit)=>IX n l k i) (λn i x _=>(jM l 0 i).bind λx3=>(J9 n x x3).bind λx4=>cond x4 (some (.rt false)) (some (.nx ()))) (λi x _=>cond ((l.take i.toNat).any (·==x)) (.rt false) (.nx ())) (λ_=>())
  (λi u _=>∃p,l=p++u/\i=(p.length:Int))
  (λn k i s=>by
   show cond _ _ _=_;congr 1;congr 1;funext x;cases jM l 0 i with|none=>rfl|some y=>
    simp;cases J9 n x y with|none=>rfl|some b=>cases b<;>rfl)
  (λi x u s d c=>by
   obtain⟨p,a,rfl⟩:=c;refine⟨?_,λ_ _=>⟨p++[x],by rw[a];simp,by simp⟩⟩;rw[aeJ l p.length (by rw[a];simp)];simp;refine Ev.bind (aqa _ _) ?_;cases(l.take p.length).any (·==x);·exact Ev.ret _
   exact Ev.ret _) (s0:=()) ⟨[],rfl,rfl⟩
 have e:∀(u p:List Str),l=p++u->jZ (τ:=Unit) (λi x _=>cond ((l.take i.toNat).any (·==x)) (.rt false) (.nx ())) (λ_=>()) (p.length:Int) u ()=cond (oW p u) (.nx ()) (.rt false):=by
  intro u
  induction u with|nil=>intro p _;rfl|cons x u f=>
   intro p a;have t:l.take p.length=p:=by rw[a];simp
   simp only[jZ,oW]
   grind
 grind
theorem adE{e}(b:¬8<(e.carriers.length:Int))(h2:¬64<(e.names.length:Int))(a:e.carriers.all Mf=true):(names2 e).length<=1000:=by
 have k:∀s:List Carrier,s.all Mf=true->(s.flatMap (·.elems)).length<=8*s.length:=by
  intro s
  induction s with|nil=>intro _;simp|cons c s i=>
   intro h;simp only[qBK,Mf]at h
   grind
 have:=k _ a;simp only[names2,qAf,qAg];omega
theorem Bl env (hs:∀d∈env.names,d.name.length<=9223372036854775807):Ev (λn=>qp n env) (aW env):=by
 unfold qp;by_cases g:8<(env.carriers.length:Int)
 ·have:aW env=false:=by simp only[aW,decide_eq_true g,qCp,qAr,qBn]
  rw[this,decide_eq_true g];exact Ev.ret _
 by_cases j:64<(env.names.length:Int)
 ·have:aW env=false:=by simp only[aW,decide_eq_true j,qDx,qAr,qBn]
  rw[this,decide_eq_true j,decide_eq_false g];exact Ev.ret _
 simp only[aW,decide_eq_false g,decide_eq_false j,qDm,qBd,qAw,cond_false,qAa];have f:=alc env.carriers (λn k i=>LD n env k i) (λn x=>((fK n x.name).bind λx10=>cond (!x10) (some true) (some (decide (8<(x.elems.length:Int))))).bind λs7=>cond s7 (some (.rt false)) ((vg n x n 0).bind (LR.el (λ_=>some (.nx ())) (λr=>some (.rt r))))) (λc=>!(Mf c)) false
  (λn k i=>by
   show cond _ _ _=_;congr 1;congr 1;funext x;cases((fK n x.name).bind λx10=>cond (!x10) (some true) (some (decide (8<(x.elems.length:Int)))))with
   |none=>rfl|some b=>
    cases b with
    |true=>rfl|false=>
     simp only[qAa,cond_false];cases vg n x n 0 with
     |none=>rfl|some r=>cases r<;>rfl)
  (λc o=>by
   refine Ev.bind (a:=!(ident c.name) ||decide (8<(c.elems.length:Int))) (Ev.bind (pF c.name) ?_) ?_
   ·cases ident c.name
    ·exact Ev.ret _
    exact Ev.ret _
   unfold Mf;cases ident c.name with
   |false=>exact Ev.ret _|true=>
    cases decide (8<(c.elems.length:Int))with|true=>exact Ev.ret _|false=>
     simp only[qAr,qCF,cond_false,qAw,qBd];have h:=qM c.elems (λn k i=>vg n c k i) (λn x=>(fK n x).bind λx9=>some (!x9)) (λs=>!(ident s)) false
      (λn k i=>by show cond _ _ _=_;congr 1;congr 1;funext x;simp only[qAZ,qAa];rfl)
      (λx _=>Ev.bind (pF x) (Ev.ret _))
     rw[qd]at h;refine Ev.bind h ?_;cases c.elems.all ident;·exact Ev.ret _
     exact Ev.ret _)
 rw[qd]at f;refine Ev.bind f ?_;cases o:env.carriers.all Mf with|false=>exact Ev.ret _|true=>
  simp only[qAr,cond_false,qAw];have e:=qM env.names (λn k i=>Lp n env k i) (λn x=>(u6 n x.name).bind λx4=>cond (!x4) (some true) ((wL n x.ty).bind λx5=>cond (!x5) (some true) ((Aj n env x.ty).bind λx6=>some (!x6)))) (λd=>!(Cc env d)) false
   (λn k i=>rfl)
   (λd p=>by
    refine Ev.bind (adb d.name (hs d p)) ?_;unfold Cc;cases named d.name with|false=>exact Ev.ret _|true=>
     simp only[qAr,cond_false,qAw];refine Ev.bind (a:=dI d.ty&&!(yE 2 d.ty)) ?_ ?_;·unfold wL;refine Ev.bind (a:=dI d.ty&&!(yE 2 d.ty)) (Ev.bind (rD d.ty) ?_) (Ev.ret _);cases dI d.ty with|false=>exact Ev.ret _|true=>exact Ev.bind (asX 2 d.ty) (Ev.ret _)
     cases v:dI d.ty with|false=>exact Ev.ret _|true=>
      cases yE 2 d.ty with|true=>exact Ev.ret _|false=>exact Ev.bind (ar9 env v) (Ev.ret _))
  rw[qd]at e;refine Ev.bind e ?_;cases p:env.names.all (Cc env)with|false=>exact Ev.ret _|true=>
   simp only[qAr,cond_false,qAw];have l:=adE g j o;have m:(Gy env).length<=1000:=by rw[(Ns env).length_eq];exact l
   refine Ev.bind (asD env (by omega)) ?_;rw[<-aD3];exact Ev.bind (asH _ (by omega)) (Ev.ret _)
theorem IU env:Ev (λn=>zV n env) (aW env):=by
 unfold zV;by_cases g:8<(env.carriers.length:Int)
 ·have:aW env=false:=by simp only[aW,decide_eq_true g,qCp,qAr,qBn]
  rw[this,decide_eq_true g];exact Ev.ret _
 by_cases j:64<(env.names.length:Int)
 ·have:aW env=false:=by simp only[aW,decide_eq_true j,qDx,qAr,qBn]
  rw[this,decide_eq_true j,decide_eq_false g];exact Ev.ret _
 simp only[aW,decide_eq_false g,decide_eq_false j,qDm,qBd,qAw,cond_false,qAa];have f:=alc env.carriers (λn k i=>Tj n env k i) (λn x=>((gZ n x.name).bind λx10=>cond (!x10) (some true) (some (decide (8<(x.elems.length:Int))))).bind λs7=>cond s7 (some (.rt false)) ((Cq n x n 0).bind (LR.el (λ_=>some (.nx ())) (λr=>some (.rt r))))) (λc=>!(Mf c)) false
  (λn k i=>by
   show cond _ _ _=_;congr 1;congr 1;funext x;cases((gZ n x.name).bind λx10=>cond (!x10) (some true) (some (decide (8<(x.elems.length:Int)))))with
   |none=>rfl|some b=>
    cases b with|true=>rfl|false=>
     simp only[qAa,cond_false];cases Cq n x n 0 with
     |none=>rfl|some r=>cases r<;>rfl)
  (λc l=>by
   refine Ev.bind (a:=!(ident c.name) ||decide (8<(c.elems.length:Int))) (Ev.bind (oH c.name) ?_) ?_
   ·cases ident c.name
    ·exact Ev.ret _
    exact Ev.ret _
   unfold Mf;cases ident c.name with|false=>exact Ev.ret _|true=>
    cases decide (8<(c.elems.length:Int))with|true=>exact Ev.ret _|false=>
     simp only[qAr,qCF,cond_false,qAw,qBd];have h:=qM c.elems (λn k i=>Cq n c k i) (λn x=>(gZ n x).bind λx9=>some (!x9)) (λs=>!(ident s)) false
      (λn k i=>by show cond _ _ _=_;congr 1;congr 1;funext x;simp only[qAZ,qAa];rfl)
      (λx _=>Ev.bind (oH x) (Ev.ret _))
     rw[qd]at h;refine Ev.bind h ?_;cases c.elems.all ident;·exact Ev.ret _
     exact Ev.ret _)
 rw[qd]at f;refine Ev.bind f ?_;cases l:env.carriers.all Mf with|false=>exact Ev.ret _|true=>
  simp only[qAr,cond_false,qAw];have e:=qM env.names (λn k i=>Uh n env k i) (λn x=>(JO n x.name).bind λx6=>cond (!x6) (some true) ((sZ n x.ty).bind λx7=>cond (!x7) (some true) ((tK n x.ty).bind λx8=>cond x8 (some true) ((Jp n env x.ty).bind λx9=>some (!x9))))) (λd=>!(Cc env d)) false
   (λn k i=>rfl)
   (λd o=>by
    refine Ev.bind (ac6 d.name) ?_;unfold Cc;cases named d.name with|false=>exact Ev.ret _|true=>
     simp only[qAr,cond_false,qAw];refine Ev.bind (AJ d.ty) ?_;cases v:dI d.ty with|false=>exact Ev.ret _|true=>
      refine Ev.bind (aoq d.ty) ?_;cases yE 2 d.ty with|true=>exact Ev.ret _|false=>exact Ev.bind (ae9 env v) (Ev.ret _))
  rw[qd]at e;refine Ev.bind e ?_;cases o:env.names.all (Cc env)with|false=>exact Ev.ret _|true=>
   simp only[qAr,cond_false,qAw];have m:=adE g j l;refine Ev.bind (asB env (by omega)) ?_;refine Ev.bind (awD _) ?_;cases oW [] (names2 env);·exact Ev.ret _
   exact Ev.ret _
theorem Gt(n:Nat)(qbj:Val→Val→Option Int)(p0:Val)(p1:Val)(k:Nat)(s:Int):Eu n qbj p0 p1 (k+1) s=xR n qbj p0 p1 (Eu n qbj p0 p1 k) s:=rfl
theorem afR n p0 k s:Ew n p0 (k+1) s=Jy n p0 (Ew n p0 k) s:=rfl
theorem nZ n (q:(List Val)->(List Val)->Option Int)(b:Val->Val->Option Int) p0 p1 k s:lq n q b p0 p1 (k+1) s=iU n q b p0 p1 (lq n q b p0 p1 k) s:=rfl
def WO:List Val->List Val->LR Unit Int|[],_=>.nx ()|_::_,[]=>.rt 1|a::s,b::c=>cond (bK a b !=0) (.rt (bK a b)) (WO s c)
theorem ame:∀s c (x y:Nat),x+c.length=y+s.length->(match WO s c with| .nx _=>cond (decide ((x:Int)<(y:Int))) (-1) 0| .rt r=>r)=dV s c
 |[],[],x,y,h=>by simp only[WO,dV];rw[decide_eq_false (by simp at h;omega)];rfl|[],b::c,x,y,h=>by simp only[WO,dV];rw[decide_eq_true (by simp at h;omega)];rfl|a::s,[],x,y,h=>rfl|a::s,b::c,x,y,h=>by
  simp only[WO,dV];cases d:(bK a b !=0)with|true=>rfl|false=>exact ame s c x y (by simp at h;omega)
theorem ajL n a b:cmp_Compare_int n a b=some (jX a b):=by
 unfold cmp_Compare_int jX
 grind
theorem aCw(a b c:Int):Ev (fun n=>Vu n [a,b,c]) (cond (a !=0) a (cond (b !=0) b (cond (c !=0) c 0))):=by
 refine⟨4,fun n hn=>?_⟩;obtain⟨m,rfl⟩:∃m,n=m+4:=⟨n - 4,by omega⟩;show(Ew (m+4) [a,b,c] (m+4) 0).bind _=_;have i0:idx [a,b,c] 0=some a:=rfl;have i1:idx [a,b,c] (0+1)=some b:=rfl;have i2:idx [a,b,c] (0+1+1)=some c:=rfl;simp only[afR,Jy]
 grind
theorem aqx:∀(asx:List Val),(∀a∈asx,∀b,Ev (fun n=>dz n a b) (bK a b))→∀(bs pa pb:List Val),pa.length=pb.length→∃N,∀n,N≤n→∀k,asx.length+1≤k→lq n (kF n) (dz n) (pa++asx) (pb++bs) k (pa.length:Int)=some (WO asx bs)
 |[],_,bs,pa,pb,hp=>by
  refine⟨0,fun n _ k hk=>?_⟩;obtain⟨j,rfl⟩:∃j,k=j+1:=⟨k - 1,by simp at hk;omega⟩;rw[nZ];unfold iU;rw[decide_eq_false (by simp)];rfl
 |a::asx,H,[],pa,pb,hp=>by
  refine⟨0,fun n _ k hk=>?_⟩;obtain⟨j,rfl⟩:∃j,k=j+1:=⟨k - 1,by simp at hk;omega⟩;rw[nZ];unfold iU;rw[decide_eq_true (by simp;omega),gV];simp only[cond_true,qAa];rw[decide_eq_true (by simp;omega)];rfl
 |a::asx,H,b::bs,pa,pb,hp=>by
  obtain⟨N1,h1⟩:=H a (by simp) b;obtain⟨N2,h2⟩:=aqx asx (fun x hx=>H x (by simp[hx])) bs (pa++[a]) (pb++[b]) (by simp[hp]);refine⟨N1+N2,fun n hn k hk=>?_⟩;obtain⟨j,rfl⟩:∃j,k=j+1:=⟨k - 1,by simp at hk;omega⟩;have h1:dz n a b=_:=h1 n (by omega);have h2:=h2 n (by omega) j (by simp at hk;omega);rw[nZ];unfold iU;rw[decide_eq_true (by simp;omega),gV];simp only[cond_true,qAa];rw[decide_eq_false (by simp;omega),show(pa.length:Int)=(pb.length:Int) by rw[hp],gV];simp only[cond_false,qAa];rw[h1];simp only[qAa,WO];cases hc:(bK a b !=0)with
  |true=>rfl
  |false=>
   simp only[cond_false];rw[show(pb.length:Int)+1=((pa++[a]).length:Int) by simp[hp]];simpa using h2
theorem ai0(asx bs:List Val)(H:∀a∈asx,∀b,Ev (fun n=>dz n a b) (bK a b)):Ev (fun n=>kF n asx bs) (dV asx bs):=by
 obtain⟨N,h⟩:=aqx asx H bs [] [] rfl;refine Ev.succ ?_;refine⟨N+asx.length+1,fun n hn=>?_⟩;have:=h n (by omega) n (by omega);simp only[qAs,qAC]at this;show nW n _ _ asx bs=_;unfold nW;rw[show((0:Nat):Int)=0 from rfl]at this;have he:=ame asx bs asx.length bs.length (by omega)
 grind
theorem yO(a b:Val):Ev (fun n=>dz n a b) (bK a b):=by
 revert b
 induction a using Val.ind with
 |h k n s ks ih=>
  intro b;obtain⟨k',n',s',ks'⟩:=b;have hk:=ai0 ks ks' ih;refine Ev.succ ?_;show Ev (fun m=>Dr m _ _ (.mk k n s ks) (.mk k' n' s' ks')) _;unfold Dr;simp only[ajL,strings_Compare,qAa,Val.kind,Val.n,Val.name,Val.kids];refine Ev.bind (aCw _ _ _) ?_;simp only[bK];cases h1:(jX k k' !=0)with
  |true=>simp only[cond_true,h1];exact Ev.ret _
  |false=>
   cases h2:(jX n n' !=0)with
   |true=>simp only[cond_true,cond_false,h2];exact Ev.ret _
   |false=>
    cases h3:(Lib.compareBytes s s' !=0)with
    |true=>simp only[cond_true,cond_false,h3];exact Ev.ret _
    |false=>
     grind
theorem sign_eq(n:Nat)(a b:Int):Jb n a b=some (jX a b):=by
 unfold Jb jX
 grind
theorem ak4:∀(asx:List Val),(∀a∈asx,∀b,Ev (fun n=>lT n a b) (bK a b))→∀(bs pa pb:List Val) (k1 n1 k2 n2:Int) (s1 s2:Str),pa.length=pb.length→(pa++asx).length≤9223372036854775807→∃N,∀n,N≤n→∀k,asx.length+1≤k→(Eu n (lT n) (.mk k1 n1 s1 (pa++asx)) (.mk k2 n2 s2 (pb++bs)) k (pa.length:Int)).bind (LR.el (fun(_:Unit)=>((Jb n ((pa++asx).length:Int) ((pb++bs).length:Int)).bind fun(x3:Int)=>some x3)) (fun r=>some r))=some (dV asx bs)
 |[],_,bs,pa,pb,k1,n1,k2,n2,s1,s2,hp,hl=>by
  refine⟨0,fun n _ k hk=>?_⟩;obtain⟨j,rfl⟩:∃j,k=j+1:=⟨k - 1,by simp at hk;omega⟩;rw[Gt];unfold xR;rw[decide_eq_false (by simp[Val.kids])];simp only[cond_false,qAa,LR.el,sign_eq,Option.some.injEq];cases bs with
  |nil=>simp[jX,dV,hp]
  |cons b bs=>
   simp only[dV,jX];rw[decide_eq_true (by simp;omega)];rfl
 |a::asx,H,[],pa,pb,k1,n1,k2,n2,s1,s2,hp,hl=>by
  refine⟨0,fun n _ k hk=>?_⟩;obtain⟨j,rfl⟩:∃j,k=j+1:=⟨k - 1,by simp at hk;omega⟩;rw[Gt];unfold xR;rw[decide_eq_true (by simp[Val.kids];omega)];simp only[cond_true,qAa];rw[decide_eq_false (by simp[Val.kids];omega)];simp only[cond_false,qAa,LR.el,sign_eq,Option.some.injEq,dV,jX];rw[decide_eq_false (by simp;omega),decide_eq_true (by simp;omega)];rfl
 |a::asx,H,b::bs,pa,pb,k1,n1,k2,n2,s1,s2,hp,hl=>by
  obtain⟨N1,h1⟩:=H a (by simp) b;obtain⟨N2,h2⟩:=ak4 asx (fun x hx=>H x (by simp[hx])) bs (pa++[a]) (pb++[b]) k1 n1 k2 n2 s1 s2 (by simp[hp]) (by simpa using hl);refine⟨N1+N2,fun n hn k hk=>?_⟩;obtain⟨j,rfl⟩:∃j,k=j+1:=⟨k - 1,by simp at hk;omega⟩;have h1:lT n a b=_:=h1 n (by omega);have h2:=h2 n (by omega) j (by simp at hk;omega);rw[Gt];unfold xR;rw[decide_eq_true (by simp[Val.kids];omega)];simp only[cond_true,qAa];rw[decide_eq_true (by simp[Val.kids];omega)];simp only[cond_true,qAa,Val.kids];rw[gV,show(pa.length:Int)=(pb.length:Int) by rw[hp],gV];simp only[qAa];rw[h1];simp only[qAa,dV];cases hc:(bK a b !=0)with
  |true=>rfl
  |false=>
   simp only[cond_false];have ew:IntKind.wrap .i64 ((pb.length:Int)+1)=((pa++[a]).length:Int):=by
    rw[wrap64 (by omega) (by simp at hl;omega)];simp[hp]
   rw[ew];simpa using h2
theorem adr(a b:Val)(ha:lI a):Ev (fun n=>lT n a b) (bK a b):=by
 revert b
 induction a using Val.ind with
 |h k n s ks ih=>
  intro b;obtain⟨k',n',s',ks'⟩:=b;obtain⟨hl,hk⟩:=ha.kids;simp only[Val.kids]at hl hk;obtain⟨N,h⟩:=ak4 ks (fun a h b=>ih a h (hk a h) b) ks' [] [] k n k' n' s s' rfl (by simpa using hl);refine Ev.succ ?_;show Ev (fun m=>HV m _ (.mk k n s ks) (.mk k' n' s' ks')) _;unfold HV;simp only[sign_eq,qAa,Val.kind,Val.n,Val.name,bK];have e1:(k !=k')=(jX k k' !=0):=by
   unfold jX
   grind
  have e2:(n !=n')=(jX n n' !=0):=by
   unfold jX
   grind
  rw[e1,e2,(Mg s s').1,(Mg s s').2];cases h1:(jX k k' !=0)with
  |true=>exact Ev.ret _
  |false=>
   simp only[cond_false];cases h2:(jX n n' !=0)with
   |true=>exact Ev.ret _
   |false=>
    simp only[cond_false];have hb:=ala s s';rcases hb with hb|hb|hb<;>rw[hb]
    ·exact Ev.ret _
    ·refine⟨N+ks.length+1,fun m hm=>?_⟩;have:=h m (by omega) m (by omega);simp only[qAs,qAC,sign_eq,qAa]at this;exact this
    ·exact Ev.ret _
end
end Abs
end Go.Proofs.YtneeginmfjageaaGreat

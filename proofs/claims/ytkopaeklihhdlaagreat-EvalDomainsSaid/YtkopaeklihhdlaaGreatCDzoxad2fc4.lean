/-
  The plain functions of the program (printed by gen.py). Conditions: none.
-/
import Derived.KernelRfl
import Derived.Test.YtkopaeklihhdlaaGreatCDomoxc66816
set_option linter.all false
namespace Go.Proofs.YtkopaeklihhdlaaGreat
namespace Abs
section
open Go Go.Proofs
set_option maxRecDepth 100000
set_option maxHeartbeats 40000000
def l6(n:Nat)(p0:Env)(p1:S_api_Scope)(p2:Ty)(x6:(List Val)×Int):Nat→Int→Option (LR Unit Bool)
 |0,_=>none
 |k+1,s2=>(cond (decide (s2<(x6.1.length:Int))) ((((idx x6.1 s2).bind fun x9=>((AX n p0 p1.sizes x9 p2).bind fun x10=>(cond (!x10) (some true) (cond (decide (0<s2)) ((idx x6.1 (s2 - 1)).bind fun x11=>((idx x6.1 s2).bind fun x12=>((dW n x11 x12).bind fun x13=>some (decide (0≤x13))))) (some false))))):Option Bool).bind fun s4=>(cond s4 (some (.rt false)) (l6 n p0 p1 p2 x6 k (s2+1)))) (some (.nx ())))
def zC(n:Nat)(p0:Env)(p1:S_api_Scope)(p2:Ty):Option Bool:=((y9 n p0).bind fun x1=>(cond (!x1) ((lX n).bind fun x2=>some x2) ((xH n p0 p1 p2).bind fun x3=>((Az n p0 p1 p2).bind fun x4=>(cond (x3 !=x4) (some false) (cond (decide (5000<x3)) ((lX n).bind fun x5=>some x5) ((pX n p0 p1 p2).bind fun x6=>((uK n p0 p1 p2).bind fun x7=>(((cond (x6.2 !=x7.2) (some true) ((jw n x6.1 x7.1).bind fun x14=>(cond (!x14) (some true) (cond (x6.2==0) (some ((x6.1.length:Int)!=x3)) (some false))))):Option Bool).bind fun s1=>(cond s1 (some false) ((l6 n p0 p1 p2 x6 n 0).bind (LR.el (fun s3=>((lX n).bind fun x8=>some x8)) (fun r=>some r)))))))))))))
end
section
open Go Go.Proofs
def nH(x:S_api_World):List AV:=[.slice (List.map aj x.env.carriers) .shared,.slice (List.map aB x.env.names) .shared,.slice (List.map encI x.sizes) .shared,.slice (List.map ah x.values) .shared]
theorem aT(g:Nat→Nat)(l:List S_api_World):bA g (l.map nH)=l.map nH:=zQ (fun g x=>by simp only[nH,bD,ren,dK,bP,bS,dF,bK,dB,aJ,aQ,aH]) g l
def gu(x:S_refinementlaw03_Typed):List AV:=[.slice (List.map encI x.sizes) .shared,.int .i64 x.v.kind,.int .i64 x.v.n,.str x.v.name,.slice (List.map ah x.v.kids) .shared,.int .i64 x.t.kind,.str x.t.name,.slice (List.map aC x.t.kids) .shared]
theorem aG(g:Nat→Nat)(l:List S_refinementlaw03_Typed):bA g (l.map gu)=l.map gu:=zQ (fun g x=>by simp only[gu,bD,ren,dK,bP,bS,dF,bK,dB,aJ,aQ,aH,aT]) g l
def rW(x:S_api_Scope):List AV:=[.slice (List.map encI x.sizes) .shared,.int .i64 x.lo,.int .i64 x.hi]
theorem aU(g:Nat→Nat)(l:List S_api_Scope):bA g (l.map rW)=l.map rW:=zQ (fun g x=>by simp only[rW,bD,ren,dK,bP,bS,dF,bK,dB,aJ,aQ,aH,aT,aG]) g l
theorem aq9:aZ Tryz.prog 9=true:=by kernel_rfl
theorem apc:aZ Tryz.prog 11=true:=by kernel_rfl
theorem ajh:aZ Tryz.prog 15=true:=by kernel_rfl
theorem ajC:aZ Tryz.prog 16=true:=by kernel_rfl
theorem EN:aZ Tryz.prog 23=true:=by kernel_rfl
theorem acf:aZ Tryz.prog 42=true:=by kernel_rfl
theorem ad6:aZ Tryz.prog 43=true:=by kernel_rfl
theorem ad8:aZ Tryz.prog 44=true:=by kernel_rfl
theorem adA:aZ Tryz.prog 45=true:=by kernel_rfl
theorem aci:aZ Tryz.prog 46=true:=by kernel_rfl
theorem Vz:aZ Tryz.prog 47=true:=by kernel_rfl
theorem Wd:aZ Tryz.prog 48=true:=by kernel_rfl
theorem adT:aZ Tryz.prog 49=true:=by kernel_rfl
theorem apD:aZ Tryz.prog 59=true:=by kernel_rfl
theorem ai4:aZ Tryz.prog 60=true:=by kernel_rfl
theorem ao6:aZ Tryz.prog 62=true:=by kernel_rfl
theorem abT:aZ Tryz.prog 67=true:=by kernel_rfl
theorem Wm:aZ Tryz.prog 68=true:=by kernel_rfl
theorem UO:aZ Tryz.prog 87=true:=by kernel_rfl
theorem aoR:aZ Tryz.prog 88=true:=by kernel_rfl
theorem aoT:aZ Tryz.prog 89=true:=by kernel_rfl
theorem aqD:aZ Tryz.prog 90=true:=by kernel_rfl
theorem aoS:aZ Tryz.prog 91=true:=by kernel_rfl
theorem apP:aZ Tryz.prog 92=true:=by kernel_rfl
theorem acs:aZ Tryz.prog 93=true:=by kernel_rfl
theorem aj1:aZ Tryz.prog 94=true:=by kernel_rfl
theorem aj5:aZ Tryz.prog 95=true:=by kernel_rfl
theorem aqL:aZ Tryz.prog 96=true:=by kernel_rfl
theorem ajW:aZ Tryz.prog 97=true:=by kernel_rfl
theorem Pz:aZ Tryz.prog 98=true:=by kernel_rfl
theorem aqy:aZ Tryz.prog 99=true:=by kernel_rfl
theorem agI:aZ Tryz.prog 100=true:=by kernel_rfl
theorem anP:aZ Tryz.prog 101=true:=by kernel_rfl
theorem afP:aZ Tryz.prog 102=true:=by kernel_rfl
theorem afT:aZ Tryz.prog 103=true:=by kernel_rfl
theorem agB:aZ Tryz.prog 104=true:=by kernel_rfl
theorem agi:aZ Tryz.prog 114=true:=by kernel_rfl
theorem af7:aZ Tryz.prog 119=true:=by kernel_rfl
theorem anV:aZ Tryz.prog 120=true:=by kernel_rfl
theorem agD:aZ Tryz.prog 133=true:=by kernel_rfl
theorem anT:aZ Tryz.prog 134=true:=by kernel_rfl
theorem anD:aZ Tryz.prog 135=true:=by kernel_rfl
theorem agh:aZ Tryz.prog 150=true:=by kernel_rfl
theorem aok:aZ Tryz.prog 151=true:=by kernel_rfl
theorem anx:aZ Tryz.prog 152=true:=by kernel_rfl
theorem aop:aZ Tryz.prog 153=true:=by kernel_rfl
theorem afI:aZ Tryz.prog 154=true:=by kernel_rfl
theorem aov:aZ Tryz.prog 155=true:=by kernel_rfl
theorem aoF:aZ Tryz.prog 156=true:=by kernel_rfl
theorem afK:aZ Tryz.prog 157=true:=by kernel_rfl
theorem agZ:aZ Tryz.prog 158=true:=by kernel_rfl
theorem afX:aZ Tryz.prog 159=true:=by kernel_rfl
theorem an7:aZ Tryz.prog 162=true:=by kernel_rfl
theorem amW:aZ Tryz.prog 182=true:=by kernel_rfl
theorem amR:aZ Tryz.prog 203=true:=by kernel_rfl
theorem aoA:aZ Tryz.prog 204=true:=by kernel_rfl
theorem afQ:aZ Tryz.prog 205=true:=by kernel_rfl
theorem ang:aZ Tryz.prog 206=true:=by kernel_rfl
theorem anL:aZ Tryz.prog 207=true:=by kernel_rfl
theorem anf:aZ Tryz.prog 208=true:=by kernel_rfl
theorem aol:aZ Tryz.prog 209=true:=by kernel_rfl
theorem ana:aZ Tryz.prog 287=true:=by kernel_rfl
theorem agt:aZ Tryz.prog 288=true:=by kernel_rfl
theorem rg{m id:Nat}{l:Array Oper}{dr:Bool}{Q:QT}{t:List AV}{h:List AObj}(r:Nat)(hr:rep r h fun h2=>Iq h 0 fun k=>Ci Tryz.prog τ l.toList l.toList k [] t h2 fun es t h=>iI dr (iG l.toList es=true∧Q .normal t h) (Q .normal t h)):AW Tryz.prog m (.region id l dr) Q t h:=AW.region aL jF r hr
attribute [simp] ren bD bA dK Qh P5 aqi apJ anO Qb ZE bY bP bS dF bK dB aJ aQ aH aT aG aU
theorem apM:aZ Tryz.prog 34=true:=by kernel_rfl
end
section
open Go Go.Proofs
set_option maxRecDepth 100000
set_option maxHeartbeats 40000000
theorem e1x0{p q:Prop}(f:p→q)(h:p:=by exact li (.u4 (.s (.u16 (.u4 (.u .n)))))):q:=f h
theorem afj(n:Nat)(p0:Env)(r:Bool)(h:y9 n p0=some r):ak Tryz.prog 9 [.agg [.slice (List.map aj p0.carriers) .shared,.slice (List.map aB p0.names) .shared]] [] (.bool r) []:=by
 unfold y9 at h;refine aA true Tryz.func9 rfl (by rw[Tryz.ntmps9];exact qAa rfl) fun Q hQ t ht=>?_
 conv at ht=>whnf
 subst ht;refine .q fun K1 k1=>?_;refine rg 1 ?_
 conv=>whnf
 refine k1 _ _ ?_;refine .q fun K2 k2=>?_;obtain⟨s1,hj1,h⟩:=ob h;have hR1:∀t9 h9,Le 0 t9 h9 (u2 (.bool s1::(u8 (u2 [])))) []→K2 t9 h9:=by
  intro t9 h9 hw;refine k2 _ _ (AW.le hw ?_);clear hw;refine .ret ?_
  conv=>whnf
  have e9:=sj h;subst e9;refine hQ _ _ _ (aF aL (fun g=>rfl) ?_)
  conv=>whnf
 refine rg 0 ?_
 conv=>whnf
 refine aY (l:=p0.carriers) (f:=aj) ?_
 conv=>whnf
 refine aD hj1 (fun hc1 hj1=>?_) (fun hc1 hj1=>?_)
 ·conv=>whnf
  refine aY (l:=p0.names) (f:=aB) ?_
  conv=>whnf
  cases hj1;exact hR1 _ _ (wk [] (.u2 (.c rfl (.u8 (.u2 .nil)))) .nil rfl)
 conv=>whnf
 cases hj1;exact hR1 _ _ (wk [] (.u2 (.c rfl (.u8 (.u2 .nil)))) .nil rfl)
theorem Kq(n:Nat)(p0:Int)(r:Bool)(h:pW n p0=some r):ak Tryz.prog 150 [.int .u8 p0] [] (.bool r) []:=by
 unfold pW at h;refine aA true Tryz.func150 rfl (by rw[Tryz.ntmps150];exact qAa rfl) fun Q hQ t ht=>?_
 conv at ht=>whnf
 subst ht;refine .q fun K1 k1=>?_;refine rg 0 ?_
 conv=>whnf
 refine k1 _ _ ?_;refine .q fun K2 k2=>?_;obtain⟨s1,hj1,h⟩:=ob h;have hR1:∀t9 h9,Le 0 t9 h9 (u2 (.bool s1::(u8 (u4 (u2 []))))) []→K2 t9 h9:=by
  intro t9 h9 hw;refine k2 _ _ (AW.le hw ?_);clear hw;refine .ret ?_
  conv=>whnf
  have e9:=sj h;subst e9;refine hQ _ _ _ (aF aL (fun g=>rfl) ?_)
  conv=>whnf
 refine rg 0 ?_
 conv=>whnf
 refine aD hj1 (fun hc1 hj1=>?_) (fun hc1 hj1=>?_)
 ·conv=>whnf
  refine aD hj1 (fun hc2 hj1=>?_) (fun hc2 hj1=>?_)
  ·conv=>whnf
   cases hj1;exact hR1 _ _ (li (.u2 (.s (.u8 (.u4 (.u2 .n))))))
  conv=>whnf
  refine aD hj1 (fun hc3 hj1=>?_) (fun hc3 hj1=>?_)
  ·conv=>whnf
   cases hj1;exact hR1 _ _ (li (.u2 (.s (.u8 (.u4 (.u2 .n))))))
  conv=>whnf
  cases hj1;exact hR1 _ _ (li (.u2 (.s (.u8 (.u4 (.u2 .n))))))
 conv=>whnf
 refine aD hj1 (fun hc4 hj1=>?_) (fun hc4 hj1=>?_)
 ·conv=>whnf
  cases hj1;exact hR1 _ _ (li (.u2 (.s (.u8 (.u4 (.u2 .n))))))
 conv=>whnf
 cases hj1;exact hR1 _ _ (li (.u2 (.s (.u8 (.u4 (.u2 .n))))))
theorem Uv(n:Nat)(p0:Str)(r:Bool)(h:qg n p0=some r):ak Tryz.prog 151 [.str p0] [] (.bool r) []:=by
 unfold qg at h;refine aA true Tryz.func151 rfl (by rw[Tryz.ntmps151];exact qAa rfl) fun Q hQ t ht=>?_
 conv at ht=>whnf
 subst ht;refine .q fun K1 k1=>?_;refine rg 0 ?_
 conv=>whnf
 refine k1 _ _ ?_;refine .q fun K2 k2=>?_;refine .q fun K3 k3=>?_;refine rg 0 ?_
 conv=>whnf
 refine k3 _ _ ?_;refine .block ?_;refine .q fun K4 k4=>?_;obtain⟨s1,hj1,h⟩:=ob h;have hR1:∀t9 h9,Le 0 t9 h9 (u4 (.bool s1::(u16 (u4 (.unk::[]))))) []→K4 t9 h9:=by
  intro t9 h9 hw;refine k4 _ _ (AW.le hw ?_);clear hw;refine .aK rfl h (fun hc1 h=>?_) (fun hc1 h=>?_)
  ·refine .q fun K5 k5=>?_;refine rg 0 ?_
   conv=>whnf
   refine k5 _ _ ?_;refine .ret ?_
   conv=>whnf
   have e9:=sj h;subst e9;refine hQ _ _ _ (aF aL (fun g=>rfl) ?_)
   conv=>whnf
  refine .skip ?_
  conv=>whnf
  refine k2 _ _ ?_;refine .q fun K6 k6=>?_;refine rg 0 ?_
  conv=>whnf
  refine k6 _ _ ?_;refine .ret ?_
  conv=>whnf
  have e9:=sj h;subst e9;refine hQ _ _ _ (aF aL (fun g=>rfl) ?_)
  conv=>whnf
 refine .q fun K7 k7=>?_;refine rg 0 ?_
 conv=>whnf
 refine k7 _ _ ?_;refine .aK rfl hj1 (fun hc2 hj1=>?_) (fun hc2 hj1=>?_)
 ·refine .skip ?_
  conv=>whnf
  cases hj1;exact e1x0 (hR1 _ _)
 refine .q fun K8 k8=>?_;refine rg 0 ?_
 conv=>whnf
 refine k8 _ _ ?_;refine .aK rfl hj1 (fun hc3 hj1=>?_) (fun hc3 hj1=>?_)
 ·refine .skip ?_
  conv=>whnf
  cases hj1;exact e1x0 (hR1 _ _)
 refine .q fun K9 k9=>?_;refine rg 0 ?_
 conv=>whnf
 refine k9 _ _ ?_;refine .aK rfl hj1 (fun hc4 hj1=>?_) (fun hc4 hj1=>?_)
 ·refine .skip ?_
  conv=>whnf
  cases hj1;exact e1x0 (hR1 _ _)
 refine .q fun K10 k10=>?_;refine rg 0 ?_
 conv=>whnf
 refine k10 _ _ ?_;refine .aK rfl hj1 (fun hc5 hj1=>?_) (fun hc5 hj1=>?_)
 ·refine .skip ?_
  conv=>whnf
  cases hj1;exact e1x0 (hR1 _ _)
 refine .q fun K11 k11=>?_;refine rg 0 ?_
 conv=>whnf
 refine k11 _ _ ?_;refine .aK rfl hj1 (fun hc6 hj1=>?_) (fun hc6 hj1=>?_)
 ·refine .skip ?_
  conv=>whnf
  cases hj1;exact e1x0 (hR1 _ _)
 refine .q fun K12 k12=>?_;refine rg 0 ?_
 conv=>whnf
 refine k12 _ _ ?_;refine .aK rfl hj1 (fun hc7 hj1=>?_) (fun hc7 hj1=>?_)
 ·refine .skip ?_
  conv=>whnf
  cases hj1;exact e1x0 (hR1 _ _)
 refine .q fun K13 k13=>?_;refine rg 0 ?_
 conv=>whnf
 refine k13 _ _ ?_;refine .aK rfl hj1 (fun hc8 hj1=>?_) (fun hc8 hj1=>?_)
 ·refine .skip ?_
  conv=>whnf
  cases hj1;exact e1x0 (hR1 _ _)
 refine .q fun K14 k14=>?_;refine rg 0 ?_
 conv=>whnf
 refine k14 _ _ ?_;refine .aK rfl hj1 (fun hc9 hj1=>?_) (fun hc9 hj1=>?_)
 ·refine .skip ?_
  conv=>whnf
  cases hj1;exact e1x0 (hR1 _ _)
 refine .q fun K15 k15=>?_;refine rg 0 ?_
 conv=>whnf
 refine k15 _ _ ?_;refine .aK rfl hj1 (fun hc10 hj1=>?_) (fun hc10 hj1=>?_)
 ·refine .skip ?_
  conv=>whnf
  cases hj1;exact e1x0 (hR1 _ _)
 refine .q fun K16 k16=>?_;refine rg 0 ?_
 conv=>whnf
 refine k16 _ _ ?_;refine .aK rfl hj1 (fun hc11 hj1=>?_) (fun hc11 hj1=>?_)
 ·refine .skip ?_
  conv=>whnf
  cases hj1;exact e1x0 (hR1 _ _)
 refine .q fun K17 k17=>?_;refine rg 0 ?_
 conv=>whnf
 refine k17 _ _ ?_;refine .aK rfl hj1 (fun hc12 hj1=>?_) (fun hc12 hj1=>?_)
 ·refine .skip ?_
  conv=>whnf
  cases hj1;exact e1x0 (hR1 _ _)
 refine .q fun K18 k18=>?_;refine rg 0 ?_
 conv=>whnf
 refine k18 _ _ ?_;refine .aK rfl hj1 (fun hc13 hj1=>?_) (fun hc13 hj1=>?_)
 ·refine .skip ?_
  conv=>whnf
  cases hj1;exact e1x0 (hR1 _ _)
 refine .q fun K19 k19=>?_;refine rg 0 ?_
 conv=>whnf
 refine k19 _ _ ?_;refine .aK rfl hj1 (fun hc14 hj1=>?_) (fun hc14 hj1=>?_)
 ·refine .skip ?_
  conv=>whnf
  cases hj1;exact e1x0 (hR1 _ _)
 refine .q fun K20 k20=>?_;refine rg 0 ?_
 conv=>whnf
 refine k20 _ _ ?_;refine .aK rfl hj1 (fun hc15 hj1=>?_) (fun hc15 hj1=>?_)
 ·refine .skip ?_
  conv=>whnf
  cases hj1;exact e1x0 (hR1 _ _)
 refine .q fun K21 k21=>?_;refine rg 0 ?_
 conv=>whnf
 refine k21 _ _ ?_;refine .aK rfl hj1 (fun hc16 hj1=>?_) (fun hc16 hj1=>?_)
 ·refine .skip ?_
  conv=>whnf
  cases hj1;exact e1x0 (hR1 _ _)
 refine .q fun K22 k22=>?_;refine rg 0 ?_
 conv=>whnf
 refine k22 _ _ ?_;refine .aK rfl hj1 (fun hc17 hj1=>?_) (fun hc17 hj1=>?_)
 ·refine .skip ?_
  conv=>whnf
  cases hj1;exact e1x0 (hR1 _ _)
 refine .q fun K23 k23=>?_;refine rg 0 ?_
 conv=>whnf
 refine k23 _ _ ?_;refine .aK rfl hj1 (fun hc18 hj1=>?_) (fun hc18 hj1=>?_)
 ·refine .skip ?_
  conv=>whnf
  cases hj1;exact e1x0 (hR1 _ _)
 refine .q fun K24 k24=>?_;refine rg 0 ?_
 conv=>whnf
 refine k24 _ _ ?_;refine .aK rfl hj1 (fun hc19 hj1=>?_) (fun hc19 hj1=>?_)
 ·refine .skip ?_
  conv=>whnf
  cases hj1;exact e1x0 (hR1 _ _)
 refine .q fun K25 k25=>?_;refine rg 0 ?_
 conv=>whnf
 refine k25 _ _ ?_;refine .aK rfl hj1 (fun hc20 hj1=>?_) (fun hc20 hj1=>?_)
 ·refine .skip ?_
  conv=>whnf
  cases hj1;exact e1x0 (hR1 _ _)
 refine .q fun K26 k26=>?_;refine rg 0 ?_
 conv=>whnf
 refine k26 _ _ ?_;refine .aK rfl hj1 (fun hc21 hj1=>?_) (fun hc21 hj1=>?_)
 ·refine .skip ?_
  conv=>whnf
  cases hj1;exact e1x0 (hR1 _ _)
 refine rg 0 ?_
 conv=>whnf
 cases hj1;exact e1x0 (hR1 _ _)
theorem aaM(n:Nat)(p0:Int)(r:Bool)(h:wU n p0=some r):ak Tryz.prog 203 [.int .u8 p0] [] (.bool r) []:=by
 unfold wU at h;refine aA true Tryz.func203 rfl (by rw[Tryz.ntmps203];exact qAa rfl) fun Q hQ t ht=>?_
 conv at ht=>whnf
 subst ht;refine .q fun K1 k1=>?_;refine rg 0 ?_
 conv=>whnf
 refine k1 _ _ ?_;refine .q fun K2 k2=>?_;obtain⟨s1,hj1,h⟩:=ob h;have hR1:∀t9 h9,Le 0 t9 h9 (u2 (.bool s1::(u4 (u2 [])))) []→K2 t9 h9:=by
  intro t9 h9 hw;refine k2 _ _ (AW.le hw ?_);clear hw;refine .ret ?_
  conv=>whnf
  have e9:=sj h;subst e9;refine hQ _ _ _ (aF aL (fun g=>rfl) ?_)
  conv=>whnf
 refine rg 0 ?_
 conv=>whnf
 refine aD hj1 (fun hc1 hj1=>?_) (fun hc1 hj1=>?_)
 ·conv=>whnf
  cases hj1;exact hR1 _ _ (li (.u2 (.s (.u4 (.u2 .n)))))
 conv=>whnf
 cases hj1;exact hR1 _ _ (li (.u2 (.s (.u4 (.u2 .n)))))
theorem XC(n:Nat)(p0:Int)(r:Bool)(h:uV n p0=some r):ak Tryz.prog 152 [.int .u8 p0] [] (.bool r) []:=by
 unfold uV at h;refine aA true Tryz.func152 rfl (by rw[Tryz.ntmps152];exact qAa rfl) fun Q hQ t ht=>?_
 conv at ht=>whnf
 subst ht;refine .q fun K1 k1=>?_;refine rg 0 ?_
 conv=>whnf
 refine k1 _ _ ?_;refine .q fun K2 k2=>?_;obtain⟨s1,hj1,h⟩:=ob h;have hR1:∀t9 h9,Le 0 t9 h9 (u2 (.bool s1::(u8 (u2 [])))) []→K2 t9 h9:=by
  intro t9 h9 hw;refine k2 _ _ (AW.le hw ?_);clear hw;refine .ret ?_
  conv=>whnf
  have e9:=sj h;subst e9;refine hQ _ _ _ (aF aL (fun g=>rfl) ?_)
  conv=>whnf
 refine rg 0 ?_
 conv=>whnf
 obtain⟨x1,hx1,hj1⟩:=ob hj1;refine au (Kq _ _ _ hx1) agh (.cons (.same _) .nil) (fun g=>rfl) (fun g=>rfl) ?_
 conv=>whnf
 refine aD hj1 (fun hc1 hj1=>?_) (fun hc1 hj1=>?_)
 ·conv=>whnf
  cases hj1;exact hR1 _ _ (li (.u2 (.s (.u8 (.u2 .n)))))
 conv=>whnf
 obtain⟨x2,hx2,hj1⟩:=ob hj1;refine au (aaM _ _ _ hx2) amR (.cons (.same _) .nil) (fun g=>rfl) (fun g=>rfl) ?_
 conv=>whnf
 refine aD hj1 (fun hc2 hj1=>?_) (fun hc2 hj1=>?_)
 ·conv=>whnf
  cases hj1;exact hR1 _ _ (li (.u2 (.s (.u8 (.u2 .n)))))
 conv=>whnf
 cases hj1;exact hR1 _ _ (li (.u2 (.s (.u8 (.u2 .n)))))
theorem uN(n:Nat)(p0:Str)(r:Bool)(h:dw n p0=some r):ak Tryz.prog 87 [.str p0] [] (.bool r) []:=by
 unfold dw at h;refine aA true Tryz.func87 rfl (by rw[Tryz.ntmps87];exact qAa rfl) fun Q hQ t ht=>?_
 conv at ht=>whnf
 subst ht;refine .q fun K1 k1=>?_;refine rg 0 ?_
 conv=>whnf
 refine k1 _ _ ?_;refine .q fun K2 k2=>?_;refine .q fun K3 k3=>?_;obtain⟨s1,hj1,h⟩:=ob h;have hR1:∀t9 h9,Le 0 t9 h9 (.str p0::(u16 (u2 (.unk::(.bool s1::(u8 (u2 (.unk::[])))))))) []→K3 t9 h9:=by
  intro t9 h9 hw;refine k3 _ _ (AW.le hw ?_);clear hw;refine .aK rfl h (fun hc1 h=>?_) (fun hc1 h=>?_)
  ·refine .q fun K4 k4=>?_;refine rg 0 ?_
   conv=>whnf
   refine k4 _ _ ?_;refine .ret ?_
   conv=>whnf
   have e9:=sj h;subst e9;refine hQ _ _ _ (aF aL (fun g=>rfl) ?_)
   conv=>whnf
  refine .skip ?_
  conv=>whnf
  refine k2 _ _ ?_;refine .q fun K5 k5=>?_;refine .q fun K6 k6=>?_;refine rg 0 ?_
  conv=>whnf
  refine k6 _ _ ?_;refine .block ?_;obtain⟨o1,ho1,h⟩:=ob h;have hR2:∀s3:Unit,o1=.nx s3→∀t9 h9,Le 0 t9 h9 (u32 []) []→K5 t9 h9:=by
   intro s3 ho;subst ho;dsimp only[LR.el]at h;intro t9 h9 hw;refine k5 _ _ (AW.le hw ?_);refine .q fun K7 k7=>?_;refine rg 0 ?_
   conv=>whnf
   refine k7 _ _ ?_;refine .ret ?_
   conv=>whnf
   have e9:=sj h;subst e9;refine hQ _ _ _ (aF aL (fun g=>rfl) ?_)
   conv=>whnf
  refine .loopS (jJ n p0) (fun(s2:Int)=>(.str p0::(u16 (u4 (.unk::(.int .i64 (p0.length:Int)::(.int .i64 s2::(u8 [])))))))) (fun(s2:Int)=>[]) ho1 (fun _=>rfl) (li (.s (.u16 (.u4 (.u (.s (.s (.u8 .n)))))))) ?_;intro n1 s2 hs1 KL1 hKL1;unfold jJ at hs1;refine .q fun K8 k8=>?_;refine rg 0 ?_
  conv=>whnf
  refine k8 _ _ ?_;refine .q fun K9 k9=>?_;refine .aK rfl hs1 (fun hc2 hs1=>?_) (fun hc2 hs1=>?_)
  ·refine .skip ?_
   conv=>whnf
   refine k9 _ _ ?_;refine .q fun K10 k10=>?_;refine .block ?_;refine .q fun K11 k11=>?_;refine rg 0 ?_
   conv=>whnf
   refine k11 _ _ ?_;refine .q fun K12 k12=>?_;refine rg 0 ?_
   conv=>whnf
   obtain⟨x1,hx1,hs1⟩:=ob hs1;refine DR hx1 ?_
   conv=>whnf
   obtain⟨x2,hx2,hs1⟩:=ob hs1;refine au (XC _ _ _ hx2) anx (.cons (.same _) .nil) (fun g=>rfl) (fun g=>rfl) ?_
   conv=>whnf
   refine k12 _ _ ?_;refine .aK rfl hs1 (fun hc3 hs1=>?_) (fun hc3 hs1=>?_)
   ·refine .q fun K13 k13=>?_;refine rg 0 ?_
    conv=>whnf
    refine k13 _ _ ?_;refine .ret ?_
    conv=>whnf
    have e9:=sj hs1;subst e9;dsimp only[LR.el]at h;have e9:=sj h;subst e9;refine hQ _ _ _ (aF aL (fun g=>rfl) ?_)
    conv=>whnf
   refine .skip ?_
   conv=>whnf
   refine k10 _ _ ?_;refine .know 3 0 fun hv1=>?_;refine .know 0 0 fun hv2=>?_;refine rg 0 ?_
   conv=>whnf
   refine⟨(s2+1),by have:=fP hv1;have:=vfs hv2;have h8:=of_decide_eq_true hc2;exact bT (by omega) (by omega),?_⟩
   conv=>whnf
   exact hKL1 _ _ _ hs1 (li (.s (.u16 (.u4 (.u (.s (.s (.u8 .n))))))))
  refine .exit ?_
  conv=>whnf
  exact hR2 _ (sj hs1).symm _ _ (li (.u16 (.u16 .n)))
 refine rg 0 ?_
 conv=>whnf
 refine aD hj1 (fun hc4 hj1=>?_) (fun hc4 hj1=>?_)
 ·conv=>whnf
  cases hj1;exact hR1 _ _ (li (.s (.u16 (.u2 (.u (.s (.u8 (.u2 (.u .n)))))))))
 conv=>whnf
 refine aD hj1 (fun hc5 hj1=>?_) (fun hc5 hj1=>?_)
 ·conv=>whnf
  cases hj1;exact hR1 _ _ (li (.s (.u16 (.u2 (.u (.s (.u8 (.u2 (.u .n)))))))))
 conv=>whnf
 obtain⟨x3,hx3,hj1⟩:=ob hj1;refine DR hx3 ?_
 conv=>whnf
 obtain⟨x4,hx4,hj1⟩:=ob hj1;refine au (Kq _ _ _ hx4) agh (.cons (.same _) .nil) (fun g=>rfl) (fun g=>rfl) ?_
 conv=>whnf
 refine aD hj1 (fun hc6 hj1=>?_) (fun hc6 hj1=>?_)
 ·conv=>whnf
  cases hj1;exact hR1 _ _ (li (.s (.u16 (.u2 (.u (.s (.u8 (.u2 (.u .n)))))))))
 conv=>whnf
 obtain⟨x5,hx5,hj1⟩:=ob hj1;refine au (Uv _ _ _ hx5) aok (.cons (.same _) .nil) (fun g=>rfl) (fun g=>rfl) ?_
 conv=>whnf
 cases hj1;exact hR1 _ _ (li (.s (.u16 (.u2 (.u (.s (.u8 (.u2 (.u .n)))))))))
theorem Ag(n:Nat)(p0:Str)(p1:Str)(r:Bool)(h:fZ n p0 p1=some r):ak Tryz.prog 287 [.str p0,.str p1] [] (.bool r) []:=by
 unfold fZ at h;refine aA true Tryz.func287 rfl (by rw[Tryz.ntmps287];exact qAa rfl) fun Q hQ t ht=>?_
 conv at ht=>whnf
 subst ht;refine .q fun K1 k1=>?_;refine rg 0 ?_
 conv=>whnf
 refine k1 _ _ ?_;refine .q fun K2 k2=>?_;obtain⟨s1,hj1,h⟩:=ob h;have hR1:∀t9 h9,Le 0 t9 h9 (u4 (.bool s1::(u16 []))) []→K2 t9 h9:=by
  intro t9 h9 hw;refine k2 _ _ (AW.le hw ?_);clear hw;refine .ret ?_
  conv=>whnf
  have e9:=sj h;subst e9;refine hQ _ _ _ (aF aL (fun g=>rfl) ?_)
  conv=>whnf
 refine rg 0 ?_
 conv=>whnf
 refine aD hj1 (fun hc1 hj1=>?_) (fun hc1 hj1=>?_)
 ·conv=>whnf
  refine⟨(IntKind.wrap .i64 ((p0.length:Int) - (p1.length:Int))),rfl,?_⟩
  conv=>whnf
  obtain⟨x1,hx1,hj1⟩:=ob hj1;refine abq hx1 (.int _ _ _) (.none _) ?_
  conv=>whnf
  cases hj1;exact hR1 _ _ (li (.u4 (.s (.u16 .n))))
 conv=>whnf
 cases hj1;exact hR1 _ _ (li (.u4 (.s (.u16 .n))))
theorem Aa(n:Nat)(p0:Str)(p1:Str)(r:Str)(h:fJ n p0 p1=some r):ak Tryz.prog 204 [.str p0,.str p1] [] (.str r) []:=by
 unfold fJ at h;refine aA true Tryz.func204 rfl (by rw[Tryz.ntmps204];exact qAa rfl) fun Q hQ t ht=>?_
 conv at ht=>whnf
 subst ht;refine .q fun K1 k1=>?_;refine rg 0 ?_
 conv=>whnf
 refine k1 _ _ ?_;refine .q fun K2 k2=>?_;refine .q fun K3 k3=>?_;refine rg 0 ?_
 conv=>whnf
 obtain⟨x1,hx1,h⟩:=ob h;refine au (Ag _ _ _ _ hx1) ana (.cons (.same _) (.cons (.same _) .nil)) (fun g=>rfl) (fun g=>rfl) ?_
 conv=>whnf
 refine k3 _ _ ?_;refine .aK rfl h (fun hc1 h=>?_) (fun hc1 h=>?_)
 ·refine .q fun K4 k4=>?_;refine rg 0 ?_
  conv=>whnf
  refine⟨(IntKind.wrap .i64 ((p0.length:Int) - (p1.length:Int))),rfl,?_⟩
  conv=>whnf
  obtain⟨x2,hx2,h⟩:=ob h;refine abq hx2 (.none _) (.int _ _ _) ?_
  conv=>whnf
  refine k4 _ _ ?_;refine .ret ?_
  conv=>whnf
  have e9:=sj h;subst e9;refine hQ _ _ _ (aF aL (fun g=>rfl) ?_)
  conv=>whnf
 refine .skip ?_
 conv=>whnf
 refine k2 _ _ ?_;refine .q fun K5 k5=>?_;refine rg 0 ?_
 conv=>whnf
 refine k5 _ _ ?_;refine .ret ?_
 conv=>whnf
 have e9:=sj h;subst e9;refine hQ _ _ _ (aF aL (fun g=>rfl) ?_)
 conv=>whnf
theorem KE(n:Nat)(p0:Str)(p1:Str)(r:Str)(h:strings_TrimSuffix n p0 p1=some r):ak Tryz.prog 153 [.str p0,.str p1] [] (.str r) []:=by
 unfold strings_TrimSuffix at h;refine aA true Tryz.func153 rfl (by rw[Tryz.ntmps153];exact qAa rfl) fun Q hQ t ht=>?_
 conv at ht=>whnf
 subst ht;refine .q fun K1 k1=>?_;refine rg 0 ?_
 conv=>whnf
 refine k1 _ _ ?_;refine .q fun K2 k2=>?_;refine rg 0 ?_
 conv=>whnf
 obtain⟨x1,hx1,h⟩:=ob h;refine au (Aa _ _ _ _ hx1) aoA (.cons (.same _) (.cons (.same _) .nil)) (fun g=>rfl) (fun g=>rfl) ?_
 conv=>whnf
 refine k2 _ _ ?_;refine .ret ?_
 conv=>whnf
 have e9:=sj h;subst e9;refine hQ _ _ _ (aF aL (fun g=>rfl) ?_)
 conv=>whnf
theorem O1(n:Nat)(p0:Str)(r:Bool)(h:kI n p0=some r):ak Tryz.prog 88 [.str p0] [] (.bool r) []:=by
 unfold kI at h;refine aA true Tryz.func88 rfl (by rw[Tryz.ntmps88];exact qAa rfl) fun Q hQ t ht=>?_
 conv at ht=>whnf
 subst ht;refine .q fun K1 k1=>?_;refine rg 0 ?_
 conv=>whnf
 refine k1 _ _ ?_;refine .q fun K2 k2=>?_;refine rg 0 ?_
 conv=>whnf
 obtain⟨x1,hx1,h⟩:=ob h;refine au (KE _ _ _ _ hx1) aop (.cons (.same _) (.cons (.same _) .nil)) (fun g=>rfl) (fun g=>rfl) ?_
 conv=>whnf
 obtain⟨x2,hx2,h⟩:=ob h;refine au (uN _ _ _ hx2) UO (.cons (.same _) .nil) (fun g=>rfl) (fun g=>rfl) ?_
 conv=>whnf
 refine k2 _ _ ?_;refine .ret ?_
 conv=>whnf
 have e9:=sj h;subst e9;refine hQ _ _ _ (aF aL (fun g=>rfl) ?_)
 conv=>whnf
theorem KR(n:Nat)(p0:Int)(p1:Int)(p2:Int)(p3:Int)(r:Bool×Int)(h:iV n p0 p1 p2 p3=some r):ak Tryz.prog 182 [.ptr 0 0,.int .i64 p3] [.box [.int .i64 p0,.int .i64 p1,.int .i64 p2]] (.bool r.1) [.box [.int .i64 r.2,.int .i64 p1,.int .i64 p2]]:=by
 unfold iV at h;refine aA true Tryz.func182 rfl (by rw[Tryz.ntmps182];exact qAa rfl) fun Q hQ t ht=>?_
 conv at ht=>whnf
 subst ht;refine .q fun K1 k1=>?_;refine rg 0 ?_
 conv=>whnf
 refine k1 _ _ ?_;refine .q fun K2 k2=>?_;refine rg 0 ?_
 conv=>whnf
 refine⟨(IntKind.wrap .i64 (p0+1)),rfl,?_⟩
 conv=>whnf
 refine k2 _ _ ?_;refine .q fun K3 k3=>?_;obtain⟨s1,hj1,h⟩:=ob h;have hR1:∀t9 h9,Le 1 t9 h9 (u4 (.bool s1::(u16 (u8 [])))) [.box [.int .i64 (IntKind.wrap .i64 (p0+1)),.int .i64 p1,.int .i64 p2]]→K3 t9 h9:=by
  intro t9 h9 hw;refine k3 _ _ (AW.le hw ?_);clear hw;refine .ret ?_
  conv=>whnf
  have e9:=sj h;subst e9;refine hQ _ _ _ (jf (u4 (.bool s1::(u16 (u8 [])))) [.box [.int .i64 (IntKind.wrap .i64 (p0+1)),.int .i64 p1,.int .i64 p2]] (wk [some 0] (.u4 (.c rfl (.u16 (.u8 .nil)))) (.b rfl (.c rfl (.c rfl (.c rfl .nil))) .nil) rfl) (dI aL [0] rfl (.cons (rfl) .nil) ?_))
  conv=>whnf
  first|rfl|(simp;done)|(simp;rfl)|(simp;and_intros<;>rfl)
 refine rg 0 ?_
 conv=>whnf
 refine aD hj1 (fun hc1 hj1=>?_) (fun hc1 hj1=>?_)
 ·conv=>whnf
  refine⟨by kernel_rfl,?_⟩
  conv=>whnf
  cases hj1;exact hR1 _ _ (li (.u4 (.s (.u16 (.u8 .n)))))
 conv=>whnf
 refine⟨by kernel_rfl,?_⟩
 conv=>whnf
 cases hj1;exact hR1 _ _ (li (.u4 (.s (.u16 (.u8 .n)))))
abbrev qe4(qee:(List Ty)→Int→Int→Int→Int→Option (Int×Int)):Prop:=∀(p0:List Ty) (p1:Int) (p2:Int) (p3:Int) (p4:Int) (r:Int×Int),qee p0 p1 p2 p3 p4=some r→ak Tryz.prog 288 [.slice (List.map aC p0) .shared,.func 209 [.ptr 0 0,.ptr 2 0]] [.box [.ptr 1 0],.box [.int .i64 p1,.int .i64 p2,.int .i64 p3],.box [.int .i64 p4]] (.int .i64 r.1) [.box [.ptr 1 0],.box [.int .i64 r.2,.int .i64 p2,.int .i64 p3],.box [.int .i64 p4]]
abbrev qez(qd8:(List Ty)→Int→Int→Int→Int→Option (Bool×Int)):Prop:=∀(p0:List Ty) (p1:Int) (p2:Int) (p3:Int) (p4:Int) (r:Bool×Int),qd8 p0 p1 p2 p3 p4=some r→ak Tryz.prog 205 [.slice (List.map aC p0) .shared,.func 209 [.ptr 0 0,.ptr 2 0]] [.box [.ptr 1 0],.box [.int .i64 p1,.int .i64 p2,.int .i64 p3],.box [.int .i64 p4]] (.bool r.1) [.box [.ptr 1 0],.box [.int .i64 r.2,.int .i64 p2,.int .i64 p3],.box [.int .i64 p4]]
abbrev qe8(qei:Int→Int→Int→Ty→Int→Bool→Option (Bool×Int)):Prop:=∀(p0:Int) (p1:Int) (p2:Int) (p3:Ty) (p4:Int) (p5:Bool) (r:Bool×Int),qei p0 p1 p2 p3 p4 p5=some r→ak Tryz.prog 157 [.ptr 0 0,.agg [.int .i64 p3.kind,.str p3.name,.slice (List.map aC p3.kids) .shared],.int .i64 p4,.bool p5] [.box [.int .i64 p0,.int .i64 p1,.int .i64 p2]] (.bool r.1) [.box [.int .i64 r.2,.int .i64 p1,.int .i64 p2]]
abbrev qe7(qej:Ty→Int→Int→Int→Int→Option (Bool×Int)):Prop:=∀(p0:Ty) (p1:Int) (p2:Int) (p3:Int) (p4:Int) (r:Bool×Int),qej p0 p1 p2 p3 p4=some r→ak Tryz.prog 209 [.agg [.int .i64 p0.kind,.str p0.name,.slice (List.map aC p0.kids) .shared],.ptr 0 0,.ptr 2 0] [.box [.ptr 1 0],.box [.int .i64 p1,.int .i64 p2,.int .i64 p3],.box [.int .i64 p4]] (.bool r.1) [.box [.ptr 1 0],.box [.int .i64 r.2,.int .i64 p2,.int .i64 p3],.box [.int .i64 p4]]
theorem Dg(n:Nat)(qee:(List Ty)→Int→Int→Int→Int→Option (Int×Int))(qd8:(List Ty)→Int→Int→Int→Int→Option (Bool×Int))(qei:Int→Int→Int→Ty→Int→Bool→Option (Bool×Int))(qej:Ty→Int→Int→Int→Int→Option (Bool×Int))(qca:qe4 qee)(qb8:qez qd8)(qcc:qe8 qei)(qcd:qe7 qej)(p0:List Ty)(p1:Int)(p2:Int)(p3:Int)(p4:Int)(r:Int×Int)(h:dZ n qee qd8 qei qej p0 p1 p2 p3 p4=some r):ak Tryz.prog 288 [.slice (List.map aC p0) .shared,.func 209 [.ptr 0 0,.ptr 2 0]] [.box [.ptr 1 0],.box [.int .i64 p1,.int .i64 p2,.int .i64 p3],.box [.int .i64 p4]] (.int .i64 r.1) [.box [.ptr 1 0],.box [.int .i64 r.2,.int .i64 p2,.int .i64 p3],.box [.int .i64 p4]]:=by
 unfold dZ at h;refine aA true Tryz.func288 rfl (by rw[Tryz.ntmps288];exact qAa rfl) fun Q hQ t ht=>?_
 conv at ht=>whnf
 subst ht;refine .q fun K1 k1=>?_;refine rg 0 ?_
 conv=>whnf
 refine k1 _ _ ?_;refine .q fun K2 k2=>?_;refine .q fun K3 k3=>?_;refine rg 0 ?_
 conv=>whnf
 refine aY (l:=p0) (f:=aC) ?_
 conv=>whnf
 refine k3 _ _ ?_;refine .block ?_;obtain⟨o1,ho1,h⟩:=ob h;have hR1:∀s2:Int,o1=.nx s2→∀t9 h9,Le 3 t9 h9 (u16 (u2 (.unk::[]))) [.box [.ptr 1 0],.box [.int .i64 s2,.int .i64 p2,.int .i64 p3],.box [.int .i64 p4]]→K2 t9 h9:=by
  intro s2 ho;subst ho;dsimp only[LR.el]at h;intro t9 h9 hw;refine k2 _ _ (AW.le hw ?_);refine .q fun K4 k4=>?_;refine rg 0 ?_
  conv=>whnf
  refine k4 _ _ ?_;refine .ret ?_
  conv=>whnf
  have e9:=sj h;subst e9;refine hQ _ _ _ (jf (u4 (.int .i64 (-1)::(u8 (u4 (u2 []))))) [.box [.ptr 1 0],.box [.int .i64 s2,.int .i64 p2,.int .i64 p3],.box [.int .i64 p4]] (wk [some 0,some 1,some 2] (.u4 (.c rfl (.u8 (.u4 (.u2 .nil))))) (.b rfl (.c rfl .nil) (.b rfl (.c rfl (.c rfl (.c rfl .nil))) (.b rfl (.c rfl .nil) .nil))) rfl) (dI aL [0,1,2] rfl (.cons (rfl) (.cons (rfl) (.cons (rfl) .nil))) ?_))
  conv=>whnf
  first|rfl|(simp;done)|(simp;rfl)|(simp;and_intros<;>rfl)
 refine .loopS (iB n qee qd8 qei qej p0 p2 p3 p4) (fun(s1:Int×Int)=>(.slice (List.map aC p0) .shared::(.func 209 [.ptr 0 0,.ptr 2 0]::(u4 (.unk::(.int .i64 (p0.length:Int)::(.int .i64 s1.1::(u8 (u2 []))))))))) (fun(s1:Int×Int)=>[.box [.ptr 1 0],.box [.int .i64 s1.2,.int .i64 p2,.int .i64 p3],.box [.int .i64 p4]]) ho1 (fun _=>rfl) (li (.s (.s (.u4 (.u (.s (.s (.u8 (.u2 .n))))))))) ?_;intro n1 s1 hs1 KL1 hKL1;unfold iB at hs1;refine .q fun K5 k5=>?_;refine rg 0 ?_
 conv=>whnf
 refine k5 _ _ ?_;refine .q fun K6 k6=>?_;refine .aK rfl hs1 (fun hc1 hs1=>?_) (fun hc1 hs1=>?_)
 ·refine .skip ?_
  conv=>whnf
  refine k6 _ _ ?_;refine .q fun K7 k7=>?_;refine .block ?_;refine .q fun K8 k8=>?_;refine rg 0 ?_
  conv=>whnf
  refine k8 _ _ ?_;refine .q fun K9 k9=>?_;refine rg 0 ?_
  conv=>whnf
  obtain⟨x1,hx1,hs1⟩:=ob hs1;refine bf (l:=p0) (f:=aC) (cs:=[.int .i64 ((x1).kind),.str ((x1).name),.slice (List.map aC ((x1).kids)) .shared]) hx1 (bZ x1) rfl ?_
  conv=>whnf
  obtain⟨x2,hx2,hs1⟩:=ob hs1;refine dP [0,1,2] [] [.agg [.int .i64 x1.kind,.str x1.name,.slice (List.map aC x1.kids) .shared],.ptr 0 0,.ptr 2 0] [.agg [.int .i64 x1.kind,.str x1.name,.slice (List.map aC x1.kids) .shared],.ptr 0 0,.ptr 2 0] (qcd _ _ _ _ _ _ hx2) aol rfl (.cons (rfl) (.cons (rfl) (.cons (rfl) .nil))) (by simp;try decide) (.cons (.same _) (.cons (.same _) (.cons (.same _) .nil))) (rn:=.bool x2.1) (rfl) (Hn:=[.box [.ptr 1 0],.box [.int .i64 x2.2,.int .i64 p2,.int .i64 p3],.box [.int .i64 p4]]) ((fC (rfl) (fC (rfl) (fC (rfl) rfl)))) ?_
  conv=>whnf
  refine k9 _ _ ?_;refine .aK rfl hs1 (fun hc2 hs1=>?_) (fun hc2 hs1=>?_)
  ·refine .q fun K10 k10=>?_;refine rg 0 ?_
   conv=>whnf
   refine k10 _ _ ?_;refine .ret ?_
   conv=>whnf
   have e9:=sj hs1;subst e9;dsimp only[LR.el]at h;have e9:=sj h;subst e9;refine hQ _ _ _ (jf (u4 (.int .i64 s1.1::(u8 (u4 (u2 []))))) [.box [.ptr 1 0],.box [.int .i64 x2.2,.int .i64 p2,.int .i64 p3],.box [.int .i64 p4]] (wk [some 0,some 1,some 2] (.u4 (.c rfl (.u8 (.u4 (.u2 .nil))))) (.b rfl (.c rfl .nil) (.b rfl (.c rfl (.c rfl (.c rfl .nil))) (.b rfl (.c rfl .nil) .nil))) rfl) (dI aL [0,1,2] rfl (.cons (rfl) (.cons (rfl) (.cons (rfl) .nil))) ?_))
   conv=>whnf
   first|rfl|(simp;done)|(simp;rfl)|(simp;and_intros<;>rfl)
  refine .skip ?_
  conv=>whnf
  refine k7 _ _ ?_;refine .know 5 0 fun hv1=>?_;refine .know 0 0 fun hv2=>?_;refine rg 0 ?_
  conv=>whnf
  refine⟨(s1.1+1),by have:=fP hv1;have:=mO hv2;have h8:=of_decide_eq_true hc1;exact bT (by omega) (by omega),?_⟩
  conv=>whnf
  exact hKL1 _ _ _ hs1 (li (.s (.s (.u4 (.u (.s (.s (.u8 (.u2 .n)))))))))
 refine .exit ?_
 conv=>whnf
 exact hR1 _ (sj hs1).symm _ _ (li (.u16 (.u2 (.u .n))))
theorem AJ(n:Nat)(qee:(List Ty)→Int→Int→Int→Int→Option (Int×Int))(qd8:(List Ty)→Int→Int→Int→Int→Option (Bool×Int))(qei:Int→Int→Int→Ty→Int→Bool→Option (Bool×Int))(qej:Ty→Int→Int→Int→Int→Option (Bool×Int))(qca:qe4 qee)(qb8:qez qd8)(qcc:qe8 qei)(qcd:qe7 qej)(p0:List Ty)(p1:Int)(p2:Int)(p3:Int)(p4:Int)(r:Bool×Int)(h:fD n qee qd8 qei qej p0 p1 p2 p3 p4=some r):ak Tryz.prog 205 [.slice (List.map aC p0) .shared,.func 209 [.ptr 0 0,.ptr 2 0]] [.box [.ptr 1 0],.box [.int .i64 p1,.int .i64 p2,.int .i64 p3],.box [.int .i64 p4]] (.bool r.1) [.box [.ptr 1 0],.box [.int .i64 r.2,.int .i64 p2,.int .i64 p3],.box [.int .i64 p4]]:=by
 unfold fD at h;refine aA true Tryz.func205 rfl (by rw[Tryz.ntmps205];exact qAa rfl) fun Q hQ t ht=>?_
 conv at ht=>whnf
 subst ht;refine .q fun K1 k1=>?_;refine rg 0 ?_
 conv=>whnf
 refine k1 _ _ ?_;refine .q fun K2 k2=>?_;refine rg 0 ?_
 conv=>whnf
 obtain⟨x1,hx1,h⟩:=ob h;refine dP [0,1,2] [] [.slice (List.map aC p0) .shared,.func 209 [.ptr 0 0,.ptr 2 0]] [.slice (List.map aC p0) .shared,.func 209 [.ptr 0 0,.ptr 2 0]] (qca _ _ _ _ _ _ hx1) agt rfl (.cons (rfl) (.cons (rfl) (.cons (rfl) .nil))) (by simp;try decide) (.cons (.same _) (.cons (.same _) .nil)) (rn:=.int .i64 x1.1) (rfl) (Hn:=[.box [.ptr 1 0],.box [.int .i64 x1.2,.int .i64 p2,.int .i64 p3],.box [.int .i64 p4]]) ((fC (rfl) (fC (rfl) (fC (rfl) rfl)))) ?_
 conv=>whnf
 refine k2 _ _ ?_;refine .ret ?_
 conv=>whnf
 have e9:=sj h;subst e9;refine hQ _ _ _ (jf (u4 (.bool (decide (0≤x1.1))::(u4 []))) [.box [.ptr 1 0],.box [.int .i64 x1.2,.int .i64 p2,.int .i64 p3],.box [.int .i64 p4]] (wk [some 0,some 1,some 2] (.u4 (.c rfl (.u4 .nil))) (.b rfl (.c rfl .nil) (.b rfl (.c rfl (.c rfl (.c rfl .nil))) (.b rfl (.c rfl .nil) .nil))) rfl) (dI aL [0,1,2] rfl (.cons (rfl) (.cons (rfl) (.cons (rfl) .nil))) ?_))
 conv=>whnf
 first|rfl|(simp;done)|(simp;rfl)|(simp;and_intros<;>rfl)
theorem Dh(n:Nat)(qee:(List Ty)→Int→Int→Int→Int→Option (Int×Int))(qd8:(List Ty)→Int→Int→Int→Int→Option (Bool×Int))(qei:Int→Int→Int→Ty→Int→Bool→Option (Bool×Int))(qej:Ty→Int→Int→Int→Int→Option (Bool×Int))(qca:qe4 qee)(qb8:qez qd8)(qcc:qe8 qei)(qcd:qe7 qej)(p0:Int)(p1:Int)(p2:Int)(p3:Ty)(p4:Int)(p5:Bool)(r:Bool×Int)(h:gJ n qee qd8 qei qej p0 p1 p2 p3 p4 p5=some r):ak Tryz.prog 157 [.ptr 0 0,.agg [.int .i64 p3.kind,.str p3.name,.slice (List.map aC p3.kids) .shared],.int .i64 p4,.bool p5] [.box [.int .i64 p0,.int .i64 p1,.int .i64 p2]] (.bool r.1) [.box [.int .i64 r.2,.int .i64 p1,.int .i64 p2]]:=by
 unfold gJ at h;refine aA true Tryz.func157 rfl (by rw[Tryz.ntmps157];exact qAa rfl) fun Q hQ t ht=>?_
 conv at ht=>whnf
 subst ht;refine .q fun K1 k1=>?_;refine rg 3 ?_
 conv=>whnf
 refine k1 _ _ ?_;refine .q fun K2 k2=>?_;refine .q fun K3 k3=>?_;refine rg 0 ?_
 conv=>whnf
 obtain⟨x1,hx1,h⟩:=ob h;refine dP [0] [] [.ptr 0 0,.int .i64 p4] [.ptr 0 0,.int .i64 p4] (KR _ _ _ _ _ _ hx1) amW rfl (.cons (rfl) .nil) (rfl) (.cons (.same _) (.cons (.same _) .nil)) (rn:=.bool x1.1) (rfl) (Hn:=[.box [.int .i64 x1.2,.int .i64 p1,.int .i64 p2]]) ((fC (rfl) rfl)) ?_
 conv=>whnf
 refine k3 _ _ ?_;refine .aK rfl h (fun hc1 h=>?_) (fun hc1 h=>?_)
 ·refine .q fun K4 k4=>?_;refine rg 0 ?_
  conv=>whnf
  refine k4 _ _ ?_;refine .ret ?_
  conv=>whnf
  have e9:=sj h;subst e9;refine hQ _ _ _ (jf (u8 (.bool false::(u32 (u8 (u2 []))))) [.box [.int .i64 x1.2,.int .i64 p1,.int .i64 p2]] (wk [some 0] (.u8 (.c rfl (.u32 (.u8 (.u2 .nil))))) (.b rfl (.c rfl (.c rfl (.c rfl .nil))) .nil) rfl) (dI aL [0] rfl (.cons (rfl) .nil) ?_))
  conv=>whnf
  first|rfl|(simp;done)|(simp;rfl)|(simp;and_intros<;>rfl)
 refine .skip ?_
 conv=>whnf
 refine k2 _ _ ?_;refine .q fun K5 k5=>?_;refine rg 0 ?_
 conv=>whnf
 refine k5 _ _ ?_;refine .q fun K6 k6=>?_;obtain⟨o1,hj1,h⟩:=ob h;have hR1:∀s1:Int,o1=.nx s1→∀t9 h9,Le 1 t9 h9 (u4 (.ptr 1 0::(.ptr 2 0::(.ptr 3 0::(u2 (.int .i64 s1::(u32 (u8 (.unk::[]))))))))) [.box [.int .i64 x1.2,.int .i64 p1,.int .i64 p2],.box [.ptr 0 0],.box [.int .i64 p3.kind,.str p3.name,.slice (List.map aC p3.kids) .shared],.box [.int .i64 p4]]→K6 t9 h9:=by
  intro s1 ho;subst ho;dsimp only[LR.el]at h;intro t9 h9 hw;refine k6 _ _ (AW.le hw ?_);clear hw;refine .q fun K7 k7=>?_;refine .q fun K8 k8=>?_;obtain⟨s2,hj2,h⟩:=ob h;have hR2:∀t9 h9,Le 1 t9 h9 (u4 (.ptr 1 0::(.ptr 2 0::(.ptr 3 0::(u32 (u4 (u2 (.bool s2::(u4 (.unk::[])))))))))) [.box [.int .i64 x1.2,.int .i64 p1,.int .i64 p2],.box [.ptr 0 0],.box [.int .i64 p3.kind,.str p3.name,.slice (List.map aC p3.kids) .shared],.box [.int .i64 p4]]→K8 t9 h9:=by
   intro t9 h9 hw;refine k8 _ _ (AW.le hw ?_);clear hw;refine .aK rfl h (fun hc2 h=>?_) (fun hc2 h=>?_)
   ·refine .q fun K9 k9=>?_;refine rg 0 ?_
    conv=>whnf
    refine k9 _ _ ?_;refine .ret ?_
    conv=>whnf
    have e9:=sj h;subst e9;refine hQ _ _ _ (jf (u8 (.bool false::(u32 (u8 (u2 []))))) [.box [.int .i64 x1.2,.int .i64 p1,.int .i64 p2]] (wk [some 0] (.u8 (.c rfl (.u32 (.u8 (.u2 .nil))))) (.b rfl (.c rfl (.c rfl (.c rfl .nil))) .nil) rfl) (dI aL [0] rfl (.cons (rfl) .nil) ?_))
    conv=>whnf
    first|rfl|(simp;done)|(simp;rfl)|(simp;and_intros<;>rfl)
   refine .skip ?_
   conv=>whnf
   refine k7 _ _ ?_;refine .q fun K10 k10=>?_;refine rg 0 ?_
   conv=>whnf
   obtain⟨x2,hx2,h⟩:=ob h;refine dP [1,0,3] [] [.slice (List.map aC p3.kids) .shared,.func 209 [.ptr 0 0,.ptr 2 0]] [.slice (List.map aC p3.kids) .shared,.func 209 [.ptr 1 0,.ptr 3 0]] (qb8 _ _ _ _ _ _ hx2) afQ rfl (.cons (rfl) (.cons (rfl) (.cons (rfl) .nil))) (by simp;try decide) (.cons (.same _) (.cons (.same _) .nil)) (rn:=.bool x2.1) (rfl) (Hn:=[.box [.ptr 0 0],.box [.int .i64 x2.2,.int .i64 p1,.int .i64 p2],.box [.int .i64 p4]]) ((fC (rfl) (fC (rfl) (fC (rfl) rfl)))) ?_
   conv=>whnf
   refine k10 _ _ ?_;refine .ret ?_
   conv=>whnf
   have e9:=sj h;subst e9;refine hQ _ _ _ (jf (u8 (.bool (!x2.1)::(u32 (u8 (u2 []))))) [.box [.int .i64 x2.2,.int .i64 p1,.int .i64 p2]] (wk [some 0] (.u8 (.c rfl (.u32 (.u8 (.u2 .nil))))) (.b rfl (.c rfl (.c rfl (.c rfl .nil))) .nil) rfl) (dI aL [0] rfl (.cons (rfl) .nil) ?_))
   conv=>whnf
   first|rfl|(simp;done)|(simp;rfl)|(simp;and_intros<;>rfl)
  refine rg 0 ?_
  conv=>whnf
  refine aY (l:=p3.kids) (f:=aC) ?_
  conv=>whnf
  refine aD hj2 (fun hc3 hj2=>?_) (fun hc3 hj2=>?_)
  ·conv=>whnf
   cases hj2;exact hR2 _ _ (li (.u4 (.s (.s (.s (.u16 (.u16 (.u4 (.u2 (.s (.u4 (.u .n))))))))))))
  conv=>whnf
  refine aD hj2 (fun hc4 hj2=>?_) (fun hc4 hj2=>?_)
  ·conv=>whnf
   cases hj2;exact hR2 _ _ (li (.u4 (.s (.s (.s (.u16 (.u16 (.u4 (.u2 (.s (.u4 (.u .n))))))))))))
  conv=>whnf
  cases hj2;exact hR2 _ _ (li (.u4 (.s (.s (.s (.u16 (.u16 (.u4 (.u2 (.s (.u4 (.u .n))))))))))))
 refine .q fun K11 k11=>?_;refine rg 0 ?_
 conv=>whnf
 refine k11 _ _ ?_;refine .block ?_;refine .q fun K12 k12=>?_;refine rg 0 ?_
 conv=>whnf
 refine k12 _ _ ?_;refine .aK rfl hj1 (fun hc5 hj1=>?_) (fun hc5 hj1=>?_)
 ·refine .skip ?_
  conv=>whnf
  exact hR1 _ (sj hj1).symm _ _ (li (.u4 (.s (.s (.s (.u2 (.s (.u16 (.u16 (.u8 (.u .n)))))))))))
 refine .q fun K13 k13=>?_;refine rg 0 ?_
 conv=>whnf
 refine k13 _ _ ?_;refine .aK rfl hj1 (fun hc6 hj1=>?_) (fun hc6 hj1=>?_)
 ·refine .q fun K14 k14=>?_;refine rg 0 ?_
  conv=>whnf
  refine k14 _ _ ?_;refine .aK rfl hj1 (fun hc7 hj1=>?_) (fun hc7 hj1=>?_)
  ·refine .q fun K15 k15=>?_;refine rg 0 ?_
   conv=>whnf
   refine k15 _ _ ?_;refine .ret ?_
   conv=>whnf
   have e9:=sj hj1;subst e9;dsimp only[LR.el]at h;have e9:=sj h;subst e9;refine hQ _ _ _ (jf (u8 (.bool false::(u32 (u8 (u2 []))))) [.box [.int .i64 x1.2,.int .i64 p1,.int .i64 p2]] (wk [some 0] (.u8 (.c rfl (.u32 (.u8 (.u2 .nil))))) (.b rfl (.c rfl (.c rfl (.c rfl .nil))) .nil) rfl) (dI aL [0] rfl (.cons (rfl) .nil) ?_))
   conv=>whnf
   first|rfl|(simp;done)|(simp;rfl)|(simp;and_intros<;>rfl)
  refine .skip ?_
  conv=>whnf
  exact hR1 _ (sj hj1).symm _ _ (li (.u4 (.s (.s (.s (.u2 (.s (.u16 (.u16 (.u8 (.u .n)))))))))))
 refine .q fun K16 k16=>?_;refine rg 0 ?_
 conv=>whnf
 refine k16 _ _ ?_;refine .aK rfl hj1 (fun hc8 hj1=>?_) (fun hc8 hj1=>?_)
 ·refine .q fun K17 k17=>?_;refine rg 0 ?_
  conv=>whnf
  obtain⟨x3,hx3,hj1⟩:=ob hj1;refine au (uN _ _ _ hx3) UO (.cons (.same _) .nil) (fun g=>rfl) (fun g=>rfl) ?_
  conv=>whnf
  refine k17 _ _ ?_;refine .aK rfl hj1 (fun hc9 hj1=>?_) (fun hc9 hj1=>?_)
  ·refine .q fun K18 k18=>?_;refine rg 0 ?_
   conv=>whnf
   refine k18 _ _ ?_;refine .ret ?_
   conv=>whnf
   have e9:=sj hj1;subst e9;dsimp only[LR.el]at h;have e9:=sj h;subst e9;refine hQ _ _ _ (jf (u8 (.bool false::(u32 (u8 (u2 []))))) [.box [.int .i64 x1.2,.int .i64 p1,.int .i64 p2]] (wk [some 0] (.u8 (.c rfl (.u32 (.u8 (.u2 .nil))))) (.b rfl (.c rfl (.c rfl (.c rfl .nil))) .nil) rfl) (dI aL [0] rfl (.cons (rfl) .nil) ?_))
   conv=>whnf
   first|rfl|(simp;done)|(simp;rfl)|(simp;and_intros<;>rfl)
  refine .skip ?_
  conv=>whnf
  exact hR1 _ (sj hj1).symm _ _ (li (.u4 (.s (.s (.s (.u2 (.s (.u16 (.u16 (.u8 (.u .n)))))))))))
 refine .q fun K19 k19=>?_;refine rg 0 ?_
 conv=>whnf
 refine k19 _ _ ?_;refine .aK rfl hj1 (fun hc10 hj1=>?_) (fun hc10 hj1=>?_)
 ·refine rg 0 ?_
  conv=>whnf
  exact hR1 _ (sj hj1).symm _ _ (li (.u4 (.s (.s (.s (.u2 (.s (.u16 (.u16 (.u8 (.u .n)))))))))))
 refine .q fun K20 k20=>?_;refine rg 0 ?_
 conv=>whnf
 refine k20 _ _ ?_;refine .aK rfl hj1 (fun hc11 hj1=>?_) (fun hc11 hj1=>?_)
 ·refine rg 0 ?_
  conv=>whnf
  exact hR1 _ (sj hj1).symm _ _ (li (.u4 (.s (.s (.s (.u2 (.s (.u16 (.u16 (.u8 (.u .n)))))))))))
 refine .q fun K21 k21=>?_;refine rg 0 ?_
 conv=>whnf
 refine k21 _ _ ?_;refine .ret ?_
 conv=>whnf
 have e9:=sj hj1;subst e9;dsimp only[LR.el]at h;have e9:=sj h;subst e9;refine hQ _ _ _ (jf (u8 (.bool false::(u32 (u8 (u2 []))))) [.box [.int .i64 x1.2,.int .i64 p1,.int .i64 p2]] (wk [some 0] (.u8 (.c rfl (.u32 (.u8 (.u2 .nil))))) (.b rfl (.c rfl (.c rfl (.c rfl .nil))) .nil) rfl) (dI aL [0] rfl (.cons (rfl) .nil) ?_))
 conv=>whnf
 first|rfl|(simp;done)|(simp;rfl)|(simp;and_intros<;>rfl)
theorem BJ(n:Nat)(qee:(List Ty)→Int→Int→Int→Int→Option (Int×Int))(qd8:(List Ty)→Int→Int→Int→Int→Option (Bool×Int))(qei:Int→Int→Int→Ty→Int→Bool→Option (Bool×Int))(qej:Ty→Int→Int→Int→Int→Option (Bool×Int))(qca:qe4 qee)(qb8:qez qd8)(qcc:qe8 qei)(qcd:qe7 qej)(p0:Ty)(p1:Int)(p2:Int)(p3:Int)(p4:Int)(r:Bool×Int)(h:fI n qee qd8 qei qej p0 p1 p2 p3 p4=some r):ak Tryz.prog 209 [.agg [.int .i64 p0.kind,.str p0.name,.slice (List.map aC p0.kids) .shared],.ptr 0 0,.ptr 2 0] [.box [.ptr 1 0],.box [.int .i64 p1,.int .i64 p2,.int .i64 p3],.box [.int .i64 p4]] (.bool r.1) [.box [.ptr 1 0],.box [.int .i64 r.2,.int .i64 p2,.int .i64 p3],.box [.int .i64 p4]]:=by
 unfold fI at h;refine aA true Tryz.func209 rfl (by rw[Tryz.ntmps209];exact qAa rfl) fun Q hQ t ht=>?_
 conv at ht=>whnf
 subst ht;refine .q fun K1 k1=>?_;refine rg 1 ?_
 conv=>whnf
 refine k1 _ _ ?_;refine .q fun K2 k2=>?_;refine rg 0 ?_
 conv=>whnf
 refine⟨(IntKind.wrap .i64 (p4+1)),rfl,?_⟩
 conv=>whnf
 obtain⟨x1,hx1,h⟩:=ob h;refine dP [1] [] [.ptr 0 0,.agg [.int .i64 p0.kind,.str p0.name,.slice (List.map aC p0.kids) .shared],.int .i64 (IntKind.wrap .i64 (p4+1)),.bool true] [.ptr 1 0,.agg [.int .i64 p0.kind,.str p0.name,.slice (List.map aC p0.kids) .shared],.int .i64 (IntKind.wrap .i64 (p4+1)),.bool true] (qcc _ _ _ _ _ _ _ hx1) afK rfl (.cons (rfl) .nil) (by simp;try decide) (.cons (.same _) (.cons (.same _) (.cons (.same _) (.cons (.same _) .nil)))) (rn:=.bool x1.1) (rfl) (Hn:=[.box [.int .i64 x1.2,.int .i64 p2,.int .i64 p3]]) ((fC (rfl) rfl)) ?_
 conv=>whnf
 refine k2 _ _ ?_;refine .ret ?_
 conv=>whnf
 have e9:=sj h;subst e9;refine hQ _ _ _ (jf (u4 (.bool (!x1.1)::(u4 (u2 [])))) [.box [.ptr 1 0],.box [.int .i64 x1.2,.int .i64 p2,.int .i64 p3],.box [.int .i64 p4]] (wk [some 0,some 1,some 2] (.u4 (.c rfl (.u4 (.u2 .nil)))) (.b rfl (.c rfl .nil) (.b rfl (.c rfl (.c rfl (.c rfl .nil))) (.b rfl (.c rfl .nil) .nil))) rfl) (dI aL [0,1,2] rfl (.cons (rfl) (.cons (rfl) (.cons (rfl) .nil))) ?_))
 conv=>whnf
 first|rfl|(simp;done)|(simp;rfl)|(simp;and_intros<;>rfl)
theorem nL(n:Nat):qe4 (dx n)∧qez (bI n)∧qe8 (bO n)∧qe7 (bJ n):=by
 induction n with
 |zero=>exact⟨(fun p0 p1 p2 p3 p4 r h=>by unfold dx at h;cases h),(fun p0 p1 p2 p3 p4 r h=>by unfold bI at h;cases h),(fun p0 p1 p2 p3 p4 p5 r h=>by unfold bO at h;cases h),(fun p0 p1 p2 p3 p4 r h=>by unfold bJ at h;cases h)⟩
 |succ n ih=>
  exact⟨(fun p0 p1 p2 p3 p4 r h=>Dg n _ _ _ _ ih.1 ih.2.1 ih.2.2.1 ih.2.2.2 p0 p1 p2 p3 p4 r (by unfold dx at h;exact h)),(fun p0 p1 p2 p3 p4 r h=>AJ n _ _ _ _ ih.1 ih.2.1 ih.2.2.1 ih.2.2.2 p0 p1 p2 p3 p4 r (by unfold bI at h;exact h)),(fun p0 p1 p2 p3 p4 p5 r h=>Dh n _ _ _ _ ih.1 ih.2.1 ih.2.2.1 ih.2.2.2 p0 p1 p2 p3 p4 p5 r (by unfold bO at h;exact h)),(fun p0 p1 p2 p3 p4 r h=>BJ n _ _ _ _ ih.1 ih.2.1 ih.2.2.1 ih.2.2.2 p0 p1 p2 p3 p4 r (by unfold bJ at h;exact h))⟩
theorem IU(n:Nat):qe8 (bO n):=(nL n).2.2.1
end
end Abs
end Go.Proofs.YtkopaeklihhdlaaGreat

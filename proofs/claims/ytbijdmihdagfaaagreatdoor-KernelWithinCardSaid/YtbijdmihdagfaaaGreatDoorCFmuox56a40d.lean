/-
  formulas: the hypotheses and the goal, in a new block. Conditions: none.
-/
import Derived.KernelRfl
import Derived.Tactics
import Derived.Tactics2
import Derived.WalkKit
import Derived.Test.YtbijdmihdagfaaaGreatDoorCSortox89adf1
set_option linter.all false
namespace Go.Proofs.YtbijdmihdagfaaaGreatDoor
namespace Abs
open Go Go.Proofs
theorem aoL:ah Tryz.prog 46=true:=by kernel_rfl
theorem Xk(ad:Option Addr)(len cap:Nat)(hc:len≤cap)(hl:len≤140737488355328)(W:World):Calls Tryz.prog 46 #[.slice ad len cap] W fun e W'=>e=.returned (.slice ad len len)∧W'=W:=by
 go_enter Tryz.func46,Tryz.ntmps46
 go_wp2
 go_ret
 exact⟨rfl,rfl⟩
theorem ajv(es:List (List AV))(tag:Tag)(hl:es.length≤140737488355328):aR Tryz.prog 46 [.slice es tag] [] (.slice es (.full es.length)) []:=by
 intro κ aB w vs hen hvl hr;have h0:=hr 0 (by simp)
 match vs,hvl with
 |[v],_=>
 simp only[List.getD,qAG,qAq]at h0;cases h0 with
 |@slice _ _ a cap b off sz u h1 h2 h3 h3' h4 h5 h6 ht=>
  refine(Xk a es.length cap h3 hl w).mono ?_;rintro e w' ⟨rfl,rfl⟩;refine⟨_,κ,rfl,Leave.same hen (qDx _ _),?_⟩;exact .slice b off sz u h1 h2 (qAr _) h3' h4 h5 h6 (qAr _)
theorem afn{P:Program}{k:Nat}{o:Oper}{ρ:Operand→AV}{σ:Nat→AObj}{args:Array Operand}{argTypes:Array TypeId}{x y:Operand}{t t2 e sz by_ n:Nat}{es ys:List (List AV)}{tag:Tag}(ho:o.op=.call {callee:=.builtin .append,args,argTypes})
  (ha:args.toList=[x,y]) (ht:argTypes.toList=[t,t2]) (he:dS P t=some (e,sz,by_)) (h2:aH.isSliceT P t2=true) (hx:ρ x=.slice es (.full n)) (hn:n≤es.length) (hy:ρ y=.slice ys tag)
  (hk:bD (σ k)=true) (hys:ys≠[]) (hb:(es.length+ys.length)*by_≤140737488355328) (hlim:es.length+ys.length≤140737488355328) (h1:es.all (bn sz)=true) (h3:ys.all (bn sz)=true):
  aH P k o ρ σ=some ([k],.obj k (.tip ((es++ys).length*sz))::aA o.dst (.slice (es++ys) (.tip k sz))):=by
 obtain⟨dst,op,ty,pos,after,guard⟩:=o;simp only at ho;subst ho;simp only[aH,au,ha,ht,he,h2,hx,hy];rw[if_neg (fun h=>hys h.2),if_pos ⟨hk,hn,hys,hb,hlim,h1,h3⟩]
theorem xJ{r:Option Bool}{A B:Prop}{h:Keep (A,B)}(e:r=some true)(a:A):Lv r A B h:=⟨true,e,fun _=>a,fun e=>by cases e⟩
theorem wC{r:Option (List Nat×List Wr)}{f:List Nat→List Wr→Prop}{h:Keep f}{rd:List Nat}{ws:List Wr}(e:r=some (rd,ws))(a:f rd ws):Z0 r f h:=⟨rd,ws,e,a⟩
theorem atp(x:AV):SWs [x] [x]:=.cons (.same x) .nil
set_option maxHeartbeats 1000000 in
set_option maxRecDepth 100000 in
theorem aag(cA cD E:List (List AV))(op m k:Int)(nm tn:Str)(KT KK:List (List AV))(hE:∀g,bR g E=E)(hok:E.all (bn 7)=true)(hT:∀g,bR g KT=KT)(hK:∀g,bR g KK=KK)(hl:E.length≤100000):
  aR Tryz.prog 16 [.agg [.slice cA .shared,.slice cD .shared,.slice E .shared,AV.int .i64 op,AV.str nm,AV.int .i64 m,AV.int .i64 k,AV.str tn,AV.slice KT .shared,AV.slice KK .shared]] [] (.slice (E++[[AV.int .i64 op,AV.str nm,AV.int .i64 m,AV.int .i64 k,AV.str tn,AV.slice KT .shared,AV.slice KK .shared]]) .shared) []:=by
 refine xK true [] @Tryz.func16 rfl (qAf rfl) ?_;refine bF.seq (bF.as1 ?_);refine xJ rfl (wC (rd:=[0]) (ws:=[.obj 0 (.box [.slice cA .shared,.slice cD .shared,.slice E .shared,AV.int .i64 op,AV.str nm,AV.int .i64 m,AV.int .i64 k,AV.str tn,AV.slice KT .shared,AV.slice KK .shared]),.slot 1 (.ptr 0 0)]) (by kernel_rfl) ?_);refine xJ rfl (wC (rd:=[]) (ws:=[.slot 2 (.slice [] .nils)]) (by kernel_rfl) ?_);show bF _ _ _ _;refine bF.seq (bF.arD (by kernel_rfl) ?_);refine xJ rfl (wC (rd:=[]) (ws:=[.slot 3 (.ptr 0 2)]) (by kernel_rfl) ?_);refine xJ rfl (wC (rd:=[0]) (ws:=[.slot 4 (.slice E .shared)]) (by kernel_rfl) ?_);refine xJ rfl ?_;show aae _ _ _;have er:∀g,ren g (.slice E (.full E.length))=.slice E (.full E.length):=fun g=>by simp only[ren,nP,hE]
 refine⟨46,[],rfl,aoL,[],[],[.slice E .shared],[],.slice E (.full E.length),[],⟨qDn,rfl,fun l h=>(by cases h),fun l h=>(by cases h),fun i l h=>(by cases i<;>cases h)⟩,rfl,?_,ajv E .shared (by omega),?_⟩
 ·show SWs [AV.slice E .shared] [.slice (bR _ E) .shared];rw[hE];exact atp _
 rw[er];refine xJ rfl (wC (rd:=[]) (ws:=[.slot 6 (.ptr 0 3)]) (by kernel_rfl) ?_);refine xJ rfl (wC (rd:=[0]) (ws:=[.slot 7 (.agg [AV.int .i64 op,AV.str nm,AV.int .i64 m,AV.int .i64 k,AV.str tn,AV.slice KT .shared,AV.slice KK .shared])]) (by kernel_rfl) ?_);refine xJ rfl (wC (rd:=[1]) (ws:=[.obj 1 (.tip 7),.slot 8 (.slice [[AV.int .i64 op,AV.str nm,AV.int .i64 m,AV.int .i64 k,AV.str tn,AV.slice KT .shared,AV.slice KK .shared]] (.tip 1 7))]) (by kernel_rfl) ?_);refine xJ rfl (wC (rd:=[2]) (ws:=[.obj 2 (.tip ((E++[[AV.int .i64 op,AV.str nm,AV.int .i64 m,AV.int .i64 k,AV.str tn,AV.slice KT .shared,AV.slice KK .shared]]).length*7)),.slot 9 (.slice (E++[[AV.int .i64 op,AV.str nm,AV.int .i64 m,AV.int .i64 k,AV.str tn,AV.slice KT .shared,AV.slice KK .shared]]) (.tip 2 7))])
  (afn (x:=.tmp 5) (y:=.tmp 8) (t:=26) (t2:=26) (e:=31) (sz:=7) (by_:=104) (n:=E.length) (es:=E) (ys:=[[AV.int .i64 op,AV.str nm,AV.int .i64 m,AV.int .i64 k,AV.str tn,AV.slice KT .shared,AV.slice KK .shared]]) (tag:=.tip 1 7) rfl rfl rfl (by kernel_rfl) (by kernel_rfl) (by kernel_rfl) (qAr _) (by kernel_rfl) (by kernel_rfl)
   (by simp) (by simp only[qAu,qAE];omega) (by simp only[qAu,qAE];omega) hok rfl) ?_)
 refine xJ rfl (wC (rd:=[]) (ws:=[.slot 2 (.slice (E++[[AV.int .i64 op,AV.str nm,AV.int .i64 m,AV.int .i64 k,AV.str tn,AV.slice KT .shared,AV.slice KK .shared]]) (.tip 2 7))]) (by kernel_rfl) ?_);refine⟨by kernel_rfl,?_⟩;refine bF.ret ?_;have ef:∀g,bR g (E++[[AV.int .i64 op,AV.str nm,AV.int .i64 m,AV.int .i64 k,AV.str tn,AV.slice KT .shared,AV.slice KK .shared]])=E++[[AV.int .i64 op,AV.str nm,AV.int .i64 m,AV.int .i64 k,AV.str tn,AV.slice KT .shared,AV.slice KK .shared]]:=fun g=>by
  have key:∀l:List (List AV),bR g (l++[[AV.int .i64 op,AV.str nm,AV.int .i64 m,AV.int .i64 k,AV.str tn,AV.slice KT .shared,AV.slice KK .shared]])=bR g l++[[AV.int .i64 op,AV.str nm,AV.int .i64 m,AV.int .i64 k,AV.str tn,AV.slice KT .shared,AV.slice KK .shared]]:=fun l=>by
   induction l with
   |nil=>simp only[qAz,bR,bS,ren,nP,hT,hK]
   |cons x l ih=>simp only[qAH,bR,ih]
  rw[key,hE]
 refine⟨[.slice (E++[[AV.int .i64 op,AV.str nm,AV.int .i64 m,AV.int .i64 k,AV.str tn,AV.slice KT .shared,AV.slice KK .shared]]) (.tip 2 7)],by kernel_rfl,?_,qDn,rfl,qAr _,fun i h=>(by cases h),fun l h=>(by cases h),fun i l h=>(by cases i<;>cases h)⟩;show AV.slice (E++[[AV.int .i64 op,AV.str nm,AV.int .i64 m,AV.int .i64 k,AV.str tn,AV.slice KT .shared,AV.slice KK .shared]]) .shared=.slice (bR _ (E++[[AV.int .i64 op,AV.str nm,AV.int .i64 m,AV.int .i64 k,AV.str tn,AV.slice KT .shared,AV.slice KK .shared]])) .shared;rw[ef]
end Abs
end Go.Proofs.YtbijdmihdagfaaaGreatDoor

/-
  slices.Clone of values, its result a block of its own. Conditions: none.
-/
import Derived.KernelRfl
import Derived.Test.YtneeginmfjageaaGreatCDrnox171891
set_option linter.unusedSimpArgs false
set_option linter.unusedVariables false
namespace Go.Proofs.YtneeginmfjageaaGreat
namespace Abs
open Go Go.Proofs
theorem awZ:j4 Tryz.prog 75=true:=by kernel_rfl
set_option maxRecDepth 100000 in
theorem EJ b8 p0 r (h:app b8 ([]:List Val) p0=some r)(hb8:b8=56):cZ Tryz.prog 75 [.slice (List.map aN p0) .shared] [] (.psl 0 4 p0.length) [.arr 4 (List.map aN p0)]:=by
 subst hb8;refine Gc true Tryz.func75 rfl (by rw[Tryz.ntmps75];exact qAe rfl) fun Q hQ t ht=>?_
 conv at ht=>whnf
 subst ht;have hr:r=p0:=by unfold app at h;split at h<;>simp at h;exact h.symm
 subst hr;refine AW.tY fun K1 hK1=>?_;refine AW.region lG y9 0 ?_
 conv=>whnf
 refine hK1 _ _ ?_;refine AW.tY fun K2 hK2=>?_;refine AW.tY fun K3 hK3=>?_;refine AW.agW (x:=0) (y:=3) (d:=4) (T:=27) (e:=40) (es:=List.map aN r) (tag:=.shared) rfl rfl rfl rfl rfl rfl (by kernel_rfl) rfl (qAe rfl) fun b hb=>?_
 conv=>whnf
 refine hK3 _ _ ?_;refine AW.cond (b:=b) rfl (fun e1=>?_) (fun e1=>?_)
 ·have hp:r=[]:=by simpa using hb e1
  subst hp;refine AW.tY fun K4 hK4=>?_;refine AW.region lG y9 0 ?_
  conv=>whnf
  refine hK4 _ _ ?_;refine AW.ret ?_
  conv=>whnf
  refine hQ _ _ _ (ayu (u2 (.psl 0 4 (List.length ([]:List Val))::(u4 (.unk::[])))) [.arr 4 (List.map aN ([]:List Val))] (wk [none] (.u2 (.cons (.nilP _ _) (.u4 (.u .nil)))) (.w rfl .nil) rfl) (Ur lG [0] rfl (.cons (congrArg (AObj.arr _) (IU _ _)) .nil) ?_))
  conv=>whnf
  try rfl
 ·refine AW.skip ?_
  conv=>whnf
  refine hK2 _ _ ?_;refine AW.tY fun K4 hK4=>?_;refine AW.aAZ lG y9 2 ?_
  conv=>whnf
  refine aAY (l:=([]:List Val)) (l':=([]:List Val)) (ys:=r) (f:=aN) h (axn _) awW ?_
  conv=>whnf
  refine hK4 _ _ ?_;refine AW.ret ?_
  conv=>whnf
  refine hQ _ _ _ (.inl (Ur lG [1] rfl (.cons (congrArg (AObj.arr _) (IU _ _)) .nil) ?_))
  conv=>whnf
  try rfl
theorem aCC:j4 Tryz.prog 74=true:=by kernel_rfl
theorem Gh ad len cap (hc:len≤cap)(hl:len≤140737488355328) W:Calls Tryz.prog 74 #[.slice ad len cap] W fun e W'=>e=.returned (.slice ad len len)∧W'=W:=by
 go_enter Tryz.func74,Tryz.ntmps74
 go_wp2
 go_ret
 exact⟨rfl,rfl⟩
set_option maxRecDepth 100000 in
theorem ad9 b8 p0 r (h:app b8 ([]:List Val) p0=some r)(hb8:b8=56):cZ Tryz.prog 75 [.slice (List.map aN p0) .shared] [] (.slice (List.map aN p0) (.tip 0 4)) [.tip (p0.length*4)]:=by
 subst hb8;refine Gc false Tryz.func75 rfl (by rw[Tryz.ntmps75];exact qAe rfl) fun Q hQ t ht=>?_
 conv at ht=>whnf
 subst ht;have hr:r=p0:=by unfold app at h;split at h<;>simp at h;exact h.symm
 subst hr;refine AW.tY fun K1 hK1=>?_;refine AW.region lG y9 0 ?_
 conv=>whnf
 refine hK1 _ _ ?_;refine AW.tY fun K2 hK2=>?_;refine AW.tY fun K3 hK3=>?_;refine AW.agW (x:=0) (y:=3) (d:=4) (T:=27) (e:=40) (es:=List.map aN r) (tag:=.shared) rfl rfl rfl rfl rfl rfl (by kernel_rfl) rfl (qAe rfl) fun b hb=>?_
 conv=>whnf
 refine hK3 _ _ ?_;refine AW.cond (b:=b) rfl (fun e1=>?_) (fun e1=>?_)
 ·have hp:r=[]:=by simpa using hb e1
  subst hp;refine AW.tY fun K4 hK4=>?_;refine AW.region lG y9 0 ?_
  conv=>whnf
  refine hK4 _ _ ?_;refine AW.ret ?_
  conv=>whnf
  refine hQ _ _ _ (ayu (u2 (.slice [] (.tip 0 4)::(u4 (.unk::[])))) [.tip 0] (wk [none] (.u2 (.cons (.nils _ _) (.u4 (.u .nil)))) (.w rfl .nil) rfl) (Ur lG [0] rfl (.cons rfl .nil) ?_))
  conv=>whnf
  try rfl
 ·refine AW.skip ?_
  conv=>whnf
  refine hK2 _ _ ?_;refine AW.tY fun K4 hK4=>?_;refine AW.region lG y9 2 ?_
  conv=>whnf
  refine⟨List.map aN ([]:List Val),rfl,?_⟩
  conv=>whnf
  refine aiW (l:=([]:List Val)) (ys:=r) (f:=aN) h awW rfl rfl rfl ?_
  conv=>whnf
  refine hK4 _ _ ?_;refine AW.ret ?_
  conv=>whnf
  refine hQ _ _ _ (.inl (Ur lG [1] rfl (.cons rfl .nil) ?_))
  conv=>whnf
  simp only[ren,pG,IU]
  try rfl
def MP(x:List Val):List AV:=[.slice (x.map aN) .shared]
theorem aEm x:bU 1 (MP x)=true:=rfl
theorem arz g:∀ts:List (List Val),dV g (ts.map MP)=ts.map MP
 | []=>rfl
 | t::ts=>by simp only[qAu,dV,arz g ts,MP,dG,ren,IU,pG]
theorem aBI:j4 Tryz.prog 335=true:=by kernel_rfl
set_option maxRecDepth 100000 in
theorem abC b8 p0 r (h:app b8 ([]:List (List Val)) p0=some r)(hb8:b8=24):cZ Tryz.prog 335 [.slice (List.map MP p0) .shared] [] (.slice (List.map MP p0) (.tip 0 1)) [.tip (p0.length*1)]:=by
 subst hb8;refine Gc false Tryz.func335 rfl (by rw[Tryz.ntmps335];exact qAe rfl) fun Q hQ t ht=>?_
 conv at ht=>whnf
 subst ht;have hr:r=p0:=by unfold app at h;split at h<;>simp at h;exact h.symm
 subst hr;refine AW.tY fun K1 hK1=>?_;refine AW.region lG y9 0 ?_
 conv=>whnf
 refine hK1 _ _ ?_;refine AW.tY fun K2 hK2=>?_;refine AW.tY fun K3 hK3=>?_;refine AW.agW (x:=0) (y:=3) (d:=4) (T:=174) (e:=27) (es:=List.map MP r) (tag:=.shared) rfl rfl rfl rfl rfl rfl (by kernel_rfl) rfl (qAe rfl) fun b hb=>?_
 conv=>whnf
 refine hK3 _ _ ?_;refine AW.cond (b:=b) rfl (fun e1=>?_) (fun e1=>?_)
 ·have hp:r=[]:=by simpa using hb e1
  subst hp;refine AW.tY fun K4 hK4=>?_;refine AW.region lG y9 0 ?_
  conv=>whnf
  refine hK4 _ _ ?_;refine AW.ret ?_
  conv=>whnf
  refine hQ _ _ _ (ayu (u2 (.slice [] (.tip 0 1)::(u4 (.unk::[])))) [.tip 0] (wk [none] (.u2 (.cons (.nils _ _) (.u4 (.u .nil)))) (.w rfl .nil) rfl) (Ur lG [0] rfl (.cons rfl .nil) ?_))
  conv=>whnf
  try rfl
 ·refine AW.skip ?_
  conv=>whnf
  refine hK2 _ _ ?_;refine AW.tY fun K4 hK4=>?_;refine AW.region lG y9 2 ?_
  conv=>whnf
  refine⟨List.map MP ([]:List (List Val)),rfl,?_⟩
  conv=>whnf
  refine aiW (l:=([]:List (List Val))) (ys:=r) (f:=MP) h aEm rfl rfl rfl ?_
  conv=>whnf
  refine hK4 _ _ ?_;refine AW.ret ?_
  conv=>whnf
  refine hQ _ _ _ (.inl (Ur lG [1] rfl (.cons rfl .nil) ?_))
  conv=>whnf
  simp only[ren,pG,arz]
  try rfl
end Abs
end Go.Proofs.YtneeginmfjageaaGreat

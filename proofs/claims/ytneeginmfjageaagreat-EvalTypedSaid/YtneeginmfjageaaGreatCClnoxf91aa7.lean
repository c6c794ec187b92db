/-
  slices.Clone of values, its result a block of its own. Conditions: none.
-/
import Derived.KernelRfl
import Derived.Test.YtneeginmfjageaaGreatCDrnoxd4a30a
set_option linter.all false
namespace Go.Proofs.YtneeginmfjageaaGreat
namespace Abs
open Go Go.Proofs
theorem azz:kE Tryz.prog 75=true:=by kernel_rfl
set_option maxRecDepth 100000 in
theorem E8 b8 p0 r (h:app b8 ([]:List Val) p0=some r)(a:b8=56):cK Tryz.prog 75 [.slice (List.map aQ p0) .shared] [] (.psl 0 4 p0.length) [.arr 4 (List.map aQ p0)]:=by
 subst a;refine Ib true Tryz.func75 rfl (by rw[Tryz.ntmps75];exact qAe rfl) λQ q t j=>?_
 conv at j=>whnf
 subst j;have m:r=p0:=by unfold app at h;split at h<;>simp at h;exact h.symm
 subst m;refine AW.uE λK1 c=>?_;refine AW.region lH zC 0 ?_
 conv=>whnf
 refine c _ _ ?_;refine AW.uE λK2 g=>?_;refine AW.uE λK3 i=>?_;refine AW.agQ (x:=0) (y:=3) (d:=4) (T:=27) (e:=40) (es:=List.map aQ r) (tag:=.shared) rfl rfl rfl rfl rfl rfl (by kernel_rfl) rfl (qAe rfl) λb n=>?_
 conv=>whnf
 refine i _ _ ?_;refine AW.cond (b:=b) rfl (λe1=>?_) (λe1=>?_)
 ·have p:r=[]:=by simpa using n e1
  subst p;refine AW.uE λK4 k=>?_;refine AW.region lH zC 0 ?_
  conv=>whnf
  refine k _ _ ?_;refine AW.ret ?_
  conv=>whnf
  refine q _ _ _ (aAj (u2 (.psl 0 4 (List.length ([]:List Val))::(u4 (.unk::[])))) [.arr 4 (List.map aQ ([]:List Val))] (wk [none] (.u2 (.cons (.nilP _ _) (.u4 (.u .nil)))) (.w rfl .nil) rfl) (Ul lH [0] rfl (.cons (congrArg (AObj.arr _) (IZ _ _)) .nil) ?_))
  conv=>whnf
  try rfl
 refine AW.skip ?_
 conv=>whnf
 refine g _ _ ?_;refine AW.uE λK4 k=>?_;refine AW.aCR lH zC 2 ?_
 conv=>whnf
 refine aDH (l:=([]:List Val)) (l':=([]:List Val)) (ys:=r) (f:=aQ) h (ax9 _) ayP ?_
 conv=>whnf
 refine k _ _ ?_;refine AW.ret ?_
 conv=>whnf
 refine q _ _ _ (.inl (Ul lH [1] rfl (.cons (congrArg (AObj.arr _) (IZ _ _)) .nil) ?_))
 conv=>whnf
 try rfl
theorem aEy:kE Tryz.prog 74=true:=by kernel_rfl
theorem HY ad len cap (h:len<=cap)(l:len<=140737488355328) W:Calls Tryz.prog 74 #[.slice ad len cap] W λe w=>e=.returned (.slice ad len len)/\w=W:=by
 go_enter Tryz.func74,Tryz.ntmps74
 go_wp2
 go_ret
 exact⟨rfl,rfl⟩
set_option maxRecDepth 100000 in
theorem aeO b8 p0 r (h:app b8 ([]:List Val) p0=some r)(a:b8=56):cK Tryz.prog 75 [.slice (List.map aQ p0) .shared] [] (.slice (List.map aQ p0) (.tip 0 4)) [.tip (p0.length*4)]:=by
 subst a;refine Ib false Tryz.func75 rfl (by rw[Tryz.ntmps75];exact qAe rfl) λQ q t j=>?_
 conv at j=>whnf
 subst j;have m:r=p0:=by unfold app at h;split at h<;>simp at h;exact h.symm
 subst m;refine AW.uE λK1 c=>?_;refine AW.region lH zC 0 ?_
 conv=>whnf
 refine c _ _ ?_;refine AW.uE λK2 g=>?_;refine AW.uE λK3 i=>?_;refine AW.agQ (x:=0) (y:=3) (d:=4) (T:=27) (e:=40) (es:=List.map aQ r) (tag:=.shared) rfl rfl rfl rfl rfl rfl (by kernel_rfl) rfl (qAe rfl) λb n=>?_
 conv=>whnf
 refine i _ _ ?_;refine AW.cond (b:=b) rfl (λe1=>?_) (λe1=>?_)
 ·have p:r=[]:=by simpa using n e1
  subst p;refine AW.uE λK4 k=>?_;refine AW.region lH zC 0 ?_
  conv=>whnf
  refine k _ _ ?_;refine AW.ret ?_
  conv=>whnf
  refine q _ _ _ (aAj (u2 (.slice [] (.tip 0 4)::(u4 (.unk::[])))) [.tip 0] (wk [none] (.u2 (.cons (.nils _ _) (.u4 (.u .nil)))) (.w rfl .nil) rfl) (Ul lH [0] rfl (.cons rfl .nil) ?_))
  conv=>whnf
  try rfl
 refine AW.skip ?_
 conv=>whnf
 refine g _ _ ?_;refine AW.uE λK4 k=>?_;refine AW.region lH zC 2 ?_
 conv=>whnf
 refine⟨List.map aQ ([]:List Val),rfl,?_⟩
 conv=>whnf
 refine aja (l:=([]:List Val)) (ys:=r) (f:=aQ) h ayP rfl rfl rfl ?_
 conv=>whnf
 refine k _ _ ?_;refine AW.ret ?_
 conv=>whnf
 refine q _ _ _ (.inl (Ul lH [1] rfl (.cons rfl .nil) ?_))
 conv=>whnf
 simp only[ren,pK,IZ]
 try rfl
def Nl(x:List Val):List AV:=[.slice (x.map aQ) .shared]
theorem aGc x:bX 1 (Nl x)=true:=rfl
theorem auA g:∀s:List (List Val),eF g (s.map Nl)=s.map Nl|[]=>rfl|t::s=>by simp only[qAz,eF,auA g s,Nl,dL,ren,IZ,pK]
theorem aCZ:kE Tryz.prog 335=true:=by kernel_rfl
set_option maxRecDepth 100000 in
theorem acX b8 p0 r (h:app b8 ([]:List (List Val)) p0=some r)(a:b8=24):cK Tryz.prog 335 [.slice (List.map Nl p0) .shared] [] (.slice (List.map Nl p0) (.tip 0 1)) [.tip (p0.length*1)]:=by
 subst a;refine Ib false Tryz.func335 rfl (by rw[Tryz.ntmps335];exact qAe rfl) λQ q t j=>?_
 conv at j=>whnf
 subst j;have m:r=p0:=by unfold app at h;split at h<;>simp at h;exact h.symm
 subst m;refine AW.uE λK1 c=>?_;refine AW.region lH zC 0 ?_
 conv=>whnf
 refine c _ _ ?_;refine AW.uE λK2 g=>?_;refine AW.uE λK3 i=>?_;refine AW.agQ (x:=0) (y:=3) (d:=4) (T:=174) (e:=27) (es:=List.map Nl r) (tag:=.shared) rfl rfl rfl rfl rfl rfl (by kernel_rfl) rfl (qAe rfl) λb n=>?_
 conv=>whnf
 refine i _ _ ?_;refine AW.cond (b:=b) rfl (λe1=>?_) (λe1=>?_)
 ·have p:r=[]:=by simpa using n e1
  subst p;refine AW.uE λK4 k=>?_;refine AW.region lH zC 0 ?_
  conv=>whnf
  refine k _ _ ?_;refine AW.ret ?_
  conv=>whnf
  refine q _ _ _ (aAj (u2 (.slice [] (.tip 0 1)::(u4 (.unk::[])))) [.tip 0] (wk [none] (.u2 (.cons (.nils _ _) (.u4 (.u .nil)))) (.w rfl .nil) rfl) (Ul lH [0] rfl (.cons rfl .nil) ?_))
  conv=>whnf
  try rfl
 refine AW.skip ?_
 conv=>whnf
 refine g _ _ ?_;refine AW.uE λK4 k=>?_;refine AW.region lH zC 2 ?_
 conv=>whnf
 refine⟨List.map Nl ([]:List (List Val)),rfl,?_⟩
 conv=>whnf
 refine aja (l:=([]:List (List Val))) (ys:=r) (f:=Nl) h aGc rfl rfl rfl ?_
 conv=>whnf
 refine k _ _ ?_;refine AW.ret ?_
 conv=>whnf
 refine q _ _ _ (.inl (Ul lH [1] rfl (.cons rfl .nil) ?_))
 conv=>whnf
 simp only[ren,pK,auA]
 try rfl
end Abs
end Go.Proofs.YtneeginmfjageaaGreat

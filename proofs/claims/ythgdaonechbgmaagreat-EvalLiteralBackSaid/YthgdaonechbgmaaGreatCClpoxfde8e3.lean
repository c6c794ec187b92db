/-
  slices.Clip of values: the same cells, no room behind. Conditions: none.
-/
import Derived.KernelRfl
import Derived.RangeFuncIn
import Derived.RangeFuncOwn
import Derived.RangeFuncLeaves
import Derived.Test.YthgdaonechbgmaaGreatCD34ox5030f2
set_option linter.all false
namespace Go.Proofs.YthgdaonechbgmaaGreat
namespace Abs
section
open Go Go.Proofs
theorem aHz:mQ Tryz.prog 39=true:=by kernel_rfl
theorem Ke(ad:Option Addr)(len cap:Nat)(hc:len≤cap)(hl:len≤140737488355328)(W:World):Calls Tryz.prog 39 #[.slice ad len cap] W fun e W'=>e=.returned (.slice ad len len)∧W'=W:=by
 go_enter Tryz.func39,Tryz.ntmps39
 go_wp2
 go_ret
 exact⟨rfl,rfl⟩
end
section
open Go
open Go.RowKit in
theorem Evo.grow{pv:bU}{w W:World}(hb:Go.RowKit.Below w.heap.size w W):Evo pv w W:=
 ⟨hb.size,fun b off u _ hc=>by
  have hlt:=lt_of_cell hc;simp only[World.cell?,hb.block b hlt]at hc⊢;exact hc,fun b c e z hx=>⟨c,by rw[hb.block b (qBi.1 hx).1];exact hx,rfl⟩⟩
theorem Sim.grow{C:Ctx}{κ:aS}{s:ASt}{a:Act}{w W:World}(h:Sim C κ s a w)(hb:Go.RowKit.Below w.heap.size w W):Sim C κ s a W where
 defers:=h.defers
 len:=h.len
 slot:=fun n hn=>(h.slot n hn).mono (Evo.grow (pv:=aH C.ak κ s.heap) hb) (dL.refl _) (fun _ _ hp _=>hp)
 klen:=h.klen
 kext:=h.kext
 resv:=h.resv
 obj:=fun l b h1 h2=>(h.obj l b h1 h2).mono (hb.block b (h.bound l b h1)) (Evo.grow hb) (dL.refl _) (fun _ _ hp _=>hp)
 apart:=h.apart
 own:=h.own
 bound:=fun l b h1=>qAB (h.bound l b h1) hb.size
 pvold:=h.pvold
 oldlt:=h.oldlt
 old:=fun b hb'=>(hb.block b (qAB (h.oldlt b hb') h.size)).trans (h.old b hb')
 os:=hb.os.trans h.os
 tape:=hb.tape.trans h.tape
 output:=hb.output.trans h.output
 size:=qAs h.size hb.size
 pvsub:=h.pvsub
 ny:=h.ny.trans (Evo.grow (pv:=C.pvE) hb) fun _ _ hp _=>hp
theorem Evo.alf{pv:bU}{w:World}{D:Nat}{x:Option (List Deferred)}(hD:w.heap[D]? =some (.deferred x)):Evo pv w (w.putObj D (.deferred none)):=by
 refine⟨by simp[World.putObj],fun b off u _ hc=>?_,fun b c e z hx=>⟨c,?_,rfl⟩⟩
 ·by_cases e:b=D
  ·subst e;simp[World.cell?,hD]at hc
  ·simp only[World.cell?,World.putObj_heap_other e]at hc⊢;exact hc
 ·by_cases e':b=D
  ·grind
  ·rw[World.putObj_heap_other e'];exact hx
theorem Sim.alf{C:Ctx}{κ:aS}{s:ASt}{a:Act}{w:World}(h:Sim C κ s a w){D:Nat}{x:Option (List Deferred)}(hD:w.heap[D]? =some (.deferred x))(ho:¬C.old D)(hl:∀l,at? κ l=some D→¬live (obj? s.heap l)):Sim C κ s a (w.putObj D (.deferred none)) where
 defers:=h.defers
 len:=h.len
 slot:=fun n hn=>(h.slot n hn).mono (Evo.alf (pv:=aH C.ak κ s.heap) hD) (dL.refl _) (fun _ _ hp _=>hp)
 klen:=h.klen
 kext:=h.kext
 resv:=h.resv
 obj:=fun l b h1 h2=>(h.obj l b h1 h2).mono (World.putObj_heap_other (fun e=>hl l (by rw[h1,e]) h2)) (Evo.alf hD) (dL.refl _) (fun _ _ hp _=>hp)
 apart:=h.apart
 own:=h.own
 bound:=fun l b h1=>by simpa[World.putObj]using h.bound l b h1
 pvold:=h.pvold
 oldlt:=h.oldlt
 old:=fun b hb'=>(World.putObj_heap_other (fun e=>ho (by rw[←e];exact hb'))).trans (h.old b hb')
 os:=h.os
 tape:=h.tape
 output:=h.output
 size:=by simpa[World.putObj]using h.size
 pvsub:=h.pvsub
 ny:=h.ny.trans (Evo.alf (pv:=C.pvE) hD) fun _ _ hp _=>hp
end
end Abs
end Go.Proofs.YthgdaonechbgmaaGreat

/-
  A range over a function that makes no round; contexts rooted anew. Conditions: none; lemmas over any program.
-/
import Derived.RangeFuncIn
import Derived.RangeFuncOwn
import Derived.RangeFuncLeaves
import Derived.Test.YtfmdmcenjfkbhaaGreatDoorCAbs21oxdc52be
set_option linter.all false
namespace Go.Proofs.YtfmdmcenjfkbhaaGreatDoor
namespace Abs
open Go
open Go.RowKit in
theorem Evo.grow{pv:bN}{w W:World}(hb:Go.RowKit.Below w.heap.size w W):Evo pv w W:=
 ⟨hb.size,fun b off u _ hc=>by
  have hlt:=lt_of_cell hc;simp only[World.cell?,hb.block b hlt]at hc⊢;exact hc,fun b c e z hx=>⟨c,by rw[hb.block b (qBs.1 hx).1];exact hx,rfl⟩⟩
theorem Sim.grow{C:Ctx}{κ:aH}{s:ASt}{a:Act}{w W:World}(h:Sim C κ s a w)(hb:Go.RowKit.Below w.heap.size w W):Sim C κ s a W where
 defers:=h.defers
 len:=h.len
 slot:=fun n hn=>(h.slot n hn).mono (Evo.grow (pv:=aC C.ak κ s.heap) hb) (bB.refl _) (fun _ _ hp _=>hp)
 klen:=h.klen
 kext:=h.kext
 resv:=h.resv
 obj:=fun l b h1 h2=>(h.obj l b h1 h2).mono (hb.block b (h.bound l b h1)) (Evo.grow hb) (bB.refl _) (fun _ _ hp _=>hp)
 apart:=h.apart
 own:=h.own
 bound:=fun l b h1=>qAF (h.bound l b h1) hb.size
 pvold:=h.pvold
 oldlt:=h.oldlt
 old:=fun b hb'=>(hb.block b (qAF (h.oldlt b hb') h.size)).trans (h.old b hb')
 os:=hb.os.trans h.os
 tape:=hb.tape.trans h.tape
 output:=hb.output.trans h.output
 size:=qAW h.size hb.size
 pvsub:=h.pvsub
 evo:=h.evo.trans (Evo.grow (pv:=C.pvE) hb) fun _ _ hp _=>hp
theorem Evo.MW{pv:bN}{w:World}{D:Nat}{x:Option (List Deferred)}(hD:w.heap[D]? =some (.deferred x)):Evo pv w (w.putObj D (.deferred none)):=by
 refine⟨by simp[World.putObj],fun b off u _ hc=>?_,fun b c e z hx=>⟨c,?_,rfl⟩⟩
 ·by_cases e:b=D
  ·subst e;simp[World.cell?,hD]at hc
  ·simp only[World.cell?,World.putObj_heap_other e]at hc⊢;exact hc
 ·by_cases e':b=D
  ·grind
  ·rw[World.putObj_heap_other e'];exact hx
theorem Sim.MW{C:Ctx}{κ:aH}{s:ASt}{a:Act}{w:World}(h:Sim C κ s a w){D:Nat}{x:Option (List Deferred)}(hD:w.heap[D]? =some (.deferred x))(ho:¬C.old D)(hl:∀l,at? κ l=some D→¬live (obj? s.heap l)):Sim C κ s a (w.putObj D (.deferred none)) where
 defers:=h.defers
 len:=h.len
 slot:=fun n hn=>(h.slot n hn).mono (Evo.MW (pv:=aC C.ak κ s.heap) hD) (bB.refl _) (fun _ _ hp _=>hp)
 klen:=h.klen
 kext:=h.kext
 resv:=h.resv
 obj:=fun l b h1 h2=>(h.obj l b h1 h2).mono (World.putObj_heap_other (fun e=>hl l (by rw[h1,e]) h2)) (Evo.MW hD) (bB.refl _) (fun _ _ hp _=>hp)
 apart:=h.apart
 own:=h.own
 bound:=fun l b h1=>by simpa[World.putObj]using h.bound l b h1
 pvold:=h.pvold
 oldlt:=h.oldlt
 old:=fun b hb'=>(World.putObj_heap_other (fun e=>ho (by rw[←e];exact hb'))).trans (h.old b hb')
 os:=h.os
 tape:=h.tape
 output:=h.output
 size:=by simpa[World.putObj]using h.size
 pvsub:=h.pvsub
 evo:=h.evo.trans (Evo.MW (pv:=C.pvE) hD) fun _ _ hp _=>hp
end Abs
end Go.Proofs.YtfmdmcenjfkbhaaGreatDoor

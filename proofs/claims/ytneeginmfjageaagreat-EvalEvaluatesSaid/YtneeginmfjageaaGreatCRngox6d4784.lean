/- A range over a function. Conditions: none. -/
import Derived.RangeFuncIn
import Derived.RangeFuncOwn
import Derived.RangeFuncLeaves
import Derived.Test.YtneeginmfjageaaGreatCAbs24oxb88401
set_option linter.all false
namespace Go.Proofs.YtneeginmfjageaaGreat
namespace Abs
open Go
open Go.RowKit in
def Evo.grow{pv:bU}{w W:World}(h:Go.RowKit.Below w.heap.size w W):Evo pv w W:=
 ⟨h.size,λb o u _ a=>by have l:=lt_of_cell a;simp only[World.cell?,h.block b l]at a|-;exact a,λb c e z x=>⟨c,by rw[h.block b (qBi.1 x).1];exact x,rfl⟩⟩
def Sim.grow{C:Ctx}{κ:aS}{s:ASt}{a:Act}{w W:World}(h:Sim C κ s a w)(c:Go.RowKit.Below w.heap.size w W):Sim C κ s a W where
 defers:=h.defers
 len:=h.len
 slot:=λn f=>(h.slot n f).mono (Evo.grow (pv:=aH C.ak κ s.heap) c) (dL.refl _) (λ_ _ p _=>p)
 klen:=h.klen
 kext:=h.kext
 resv:=h.resv
 obj:=λl b e g=>(h.obj l b e g).mono (c.block b (h.bound l b e)) (Evo.grow c) (dL.refl _) (λ_ _ p _=>p)
 apart:=h.apart
 own:=h.own
 bound:=λl b e=>qAB (h.bound l b e) c.size
 pvold:=h.pvold
 oldlt:=h.oldlt
 old:=λb d=>(c.block b (qAB (h.oldlt b d) h.size)).trans (h.old b d)
 os:=c.os.trans h.os
 tape:=c.tape.trans h.tape
 output:=c.output.trans h.output
 size:=qAs h.size c.size
 pvsub:=h.pvsub
 ny:=h.ny.trans (Evo.grow (pv:=C.pvE) c) λ_ _ p _=>p
def Evo.alf{pv:bU}{w:World}{D:Nat}{x:Option (List Deferred)}(d:w.heap[D]? =some (.deferred x)):Evo pv w (w.putObj D (.deferred none)):=by
 refine⟨by simp[World.putObj],λb o u _ h=>?_,λb c e z a=>⟨c,?_,rfl⟩⟩
 ·by_cases e:b=D
  ·subst e;simp[World.cell?,d]at h
  simp only[World.cell?,World.putObj_heap_other e]at h|-;exact h
 by_cases f:b=D
 ·grind
 rw[World.putObj_heap_other f];exact a
def Sim.alf{C:Ctx}{κ:aS}{s:ASt}{a:Act}{w:World}(h:Sim C κ s a w){D:Nat}{x:Option (List Deferred)}(f:w.heap[D]? =some (.deferred x))(o:¬C.old D)(i:∀l,at? κ l=some D->¬live (obj? s.heap l)):Sim C κ s a (w.putObj D (.deferred none)) where
 defers:=h.defers
 len:=h.len
 slot:=λn j=>(h.slot n j).mono (Evo.alf (pv:=aH C.ak κ s.heap) f) (dL.refl _) (λ_ _ p _=>p)
 klen:=h.klen
 kext:=h.kext
 resv:=h.resv
 obj:=λl b d g=>(h.obj l b d g).mono (World.putObj_heap_other (λe=>i l (by rw[d,e]) g)) (Evo.alf f) (dL.refl _) (λ_ _ p _=>p)
 apart:=h.apart
 own:=h.own
 bound:=λl b d=>by simpa[World.putObj]using h.bound l b d
 pvold:=h.pvold
 oldlt:=h.oldlt
 old:=λb c=>(World.putObj_heap_other (λe=>o (by rw[<-e];exact c))).trans (h.old b c)
 os:=h.os
 tape:=h.tape
 output:=h.output
 size:=by simpa[World.putObj]using h.size
 pvsub:=h.pvsub
 ny:=h.ny.trans (Evo.alf (pv:=C.pvE) f) λ_ _ p _=>p
end Abs
end Go.Proofs.YtneeginmfjageaaGreat

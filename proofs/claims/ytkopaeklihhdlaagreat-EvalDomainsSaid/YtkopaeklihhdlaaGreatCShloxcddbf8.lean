/-
  Shifts to the left as a question of plain functions. Conditions: none.
-/
import Derived.Test.YtkopaeklihhdlaaGreatCAbs38ox79bf07
set_option linter.all false
namespace Go.Proofs.YtkopaeklihhdlaaGreat
namespace Abs
open Go
def Qs(a c:Int):Option Int:=if 0≤c∧c≤62 then some (IntKind.wrap .i64 (a*2^c.toNat))else none
theorem aiP{a c x:Int}{K:AV→Prop}(h:Qs a c=some x)(hk:K (.int .i64 x)):iN (if 0≤c∧c≤(IntKind.i64.bits:Int)then some (AV.int .i64 (IntKind.i64.wrap (a*2^c.toNat)))else none) K:=by
 unfold Qs at h;split at h
 ·rename_i hc;have hb:(IntKind.i64.bits:Int)=64:=rfl;rw[if_pos ⟨hc.1,by rw[hb];omega⟩];cases h;exact hk
 ·cases h
end Abs
end Go.Proofs.YtkopaeklihhdlaaGreat

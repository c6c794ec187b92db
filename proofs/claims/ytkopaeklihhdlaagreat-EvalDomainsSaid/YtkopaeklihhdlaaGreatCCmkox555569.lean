/-
  slices.CompactFunc over elements of four cells: the row keeps the first of each run of equals. Conditions: the contract of the test.
-/
import Derived.Shelf.SlSortCmp.KitK
import Derived.Lib.SlKept
import Derived.Lib.SliceRun
import Derived.Lib.Walk
import Derived.Sort.WalkB2
import Derived.Sort.WalkB12
import Derived.Deep.LoopGhost
import Derived.Test.YtkopaeklihhdlaaGreatCDomoxc66816
set_option linter.all false
namespace Go.Proofs.YtkopaeklihhdlaaGreat
namespace Abs
open Go Go.Proofs Go.Shelf Go.RowKit Go.Lib Go.Sort
variable {α:Type}[Inhabited α]
theorem afB(enc:α→List Value)(k:Nat)(hk:∀x,(enc x).length=k)(d:Array α)(i:Nat)(x:α)(hi:i<d.size):
  setMany (flatK enc k d) (i*k) (enc x)=flatK enc k (d.setIfInBounds i x):=by
 refine ext_get! (by simp) fun t ht=>?_;have ht':t<d.size*k:=by simpa using ht
 have k0:0<k:=by
  rcases Nat.eq_zero_or_pos k with h|h
  ·subst h;simp at ht'
  ·exact h
 rw[get_setMany _ _ _ t (by simpa using ht'),get_flatK _ _ _ t ht',get_flatK _ _ _ t (by simpa using ht'),hk];by_cases a:t/k=i
 ·have m:t - i*k=t%k:=by subst a;rw[Nat.mod_eq_sub_div_mul]
  rw[if_pos ((blk_iff k i t k0).2 a),m,a,getElem!_set_same d i x hi]
 ·rw[if_neg (fun h=>a ((blk_iff k i t k0).1 h)),getElem!_set_other d i _ x a]
theorem SWK.put{enc:α→List Value}{k:Nat}{w0 W:World}{blk off:Nat}{dk:Array α}(h:SWK enc k w0 blk off dk W)(hk:∀x,(enc x).length=k)(hblk:blk<w0.heap.size)(i:Nat)(hi:i<dk.size)(x:α):
  SWK enc k w0 blk off (dk.setIfInBounds i x) (W.setCells blk (off+i*k) (enc x)):=by
 obtain⟨n,os,rfl⟩:=h;refine⟨n,os,?_⟩;unfold sortWorldK;rw[setCells_grow os blk _ _ _ (by rw[size_putRowK];exact hblk)];congr 1;unfold putRowK;rw[setCells_putRow _ _ _ _ _ _ (by rw[hk,size_flatK];exact rowK_bnd dk k i hi),afB enc k hk dk i x hi]
theorem Jm(b:Nat):∀(xs ys:List Value) (o:Nat) (w:World),w.setCells b o (xs++ys)=(w.setCells b o xs).setCells b (o+xs.length) ys
 |[],ys,o,w=>by simp[World.setCells]
 |x::xs,ys,o,w=>by
  show((w.setCell ⟨b,o,none⟩ x).setCells b (o+1) (xs++ys))=_;rw[Jm b xs ys (o+1)];show _=((w.setCell ⟨b,o,none⟩ x).setCells b (o+1) xs).setCells b (o+(xs.length+1)) ys;rw[qBx,Nat.add_comm 1]
theorem SWK.puts{enc:α→List Value}{k:Nat}{w0:World}{blk off:Nat}(hk:∀x,(enc x).length=k)(hblk:blk<w0.heap.size)(x:α):∀(n i:Nat) (dk:Array α) (W:World),SWK enc k w0 blk off dk W→i+n≤dk.size→
  ∃dk':Array α,SWK enc k w0 blk off dk' (W.setCells blk (off+i*k) (List.replicate n (enc x)).flatten)∧dk'.size=dk.size∧∀j,j<i→dk'[j]! =dk[j]!
 |0,i,dk,W,h,_=>⟨dk,by simpa[World.setCells]using h,rfl,fun _ _=>rfl⟩
 |n+1,i,dk,W,h,hi=>by
  have h1:=SWK.put h hk hblk i (by omega) x;obtain⟨dk',a,b,c⟩:=SWK.puts hk hblk x n (i+1) _ _ h1 (by simp;omega);refine⟨dk',?_,by rw[b];simp,fun j hj=>?_⟩
  ·rw[List.replicate_succ,qBQ,Jm,hk,show off+i*k+k=off+(i+1)*k by rw[qAD,qBW,qBx]];exact a
  ·rw[c j (by omega),getElem!_set_other dk i j x (by omega)]
theorem YO(z:Array Value)(hz:0<z.size)(n:Nat):(Builtin.zeroCells z n).toList=(List.replicate n z.toList).flatten:=by
 have key:∀n,(List.range (n*z.size)).map (fun i=>z[i%z.size]!)=(List.replicate n z.toList).flatten:=by
  intro n
  induction n with
  |zero=>simp
  |succ n ih=>
   rw[qAD,qBW,List.range_add,qBs,ih,List.replicate_succ',List.flatten_append];congr 1;simp only[qBt,qBQ,List.flatten_nil,qAK];apply qBH
   ·simp
   ·intro i h1 h2;have hi:i<z.size:=by simpa using h2
    simp[qBU hi,hi]
 unfold Builtin.zeroCells;rw[←key n];simp
abbrev z31:List Value:=[.int .i64 0,.int .i64 0,.string ⟨#[]⟩,.slice none 0 0]
theorem aeO(enc:α→List Value)(hz:enc default=z31){w0 w:World}{blk off:Nat}{d0 dk:Array α}(R:RowK enc 4 w0 blk off d0)(S:SWK enc 4 w0 blk off dk w)(hs:dk.size=d0.size)(i n c:Nat)(hi:i+n≤dk.size)(ty:TypeId):
  (Builtin.clear_ #[27] ty #[.slice (some ⟨blk,off+i*4,none⟩) n c]).run Tryz.prog w=.ok (.tuple #[]) (w.setCells blk (off+i*4) (List.replicate n (enc default)).flatten):=by
 have ht:Tryz.prog.underlying 27=some (.slice 31):=by kernel_rfl
 have hv:∀w,(zeroValue 31).run Tryz.prog w=.ok (.agg #[.int .i64 0,.int .i64 0,.string ⟨#[]⟩,.slice none 0 0]) w:=fun _=>by kernel_rfl
 cases n with
 |zero=>
  simp[Builtin.clear_,run_underlying ht,World.setCells]
 |succ m=>
  have hzc:(Builtin.zeroCells (Value.agg #[.int .i64 0,.int .i64 0,.string ⟨#[]⟩,.slice none 0 0]).cells (m+1)).toList=(List.replicate (m+1) (enc default)).flatten:=by
   rw[YO _ (by simp[Value.cells]),hz];rfl
  have hst:=stores_of_holds Tryz.prog (S.holds R.hblk R.hH hs) (i*4) (List.replicate (m+1) (enc default)).flatten (by
   rw[size_flatK];simp[R.hk];omega) (by
   intro v hv';obtain⟨l,h1,h2⟩:=List.mem_flatten.1 hv';rw[List.eq_of_mem_replicate h1]at h2;exact R.h1 _ v h2)
  simp only[Builtin.clear_];simp[run_underlying ht,hv,hzc,hst]
theorem SWK.c4{enc:α→List Value}{w0 W:World}{blk off:Nat}{d0 dk:Array α}(h:SWK enc 4 w0 blk off dk W)(R:RowK enc 4 w0 blk off d0)(hs:dk.size=d0.size)(i:Nat)(hi:i<dk.size){x a b c d:_}(hx:x=dk[i]!)(he:enc x=[a,b,c,d])(n:Nat)(os:Array Obj):
  (grow (W.drewN n) os).cell? ⟨blk,off+i*4,none⟩=some a∧(grow (W.drewN n) os).cell? ⟨blk,off+i*4+1,none⟩=some b∧(grow (W.drewN n) os).cell? ⟨blk,off+i*4+2,none⟩=some c∧(grow (W.drewN n) os).cell? ⟨blk,off+i*4+3,none⟩=some d:=by
 have hH:=(h.grown n os).holds R.hblk R.hH hs;subst hx;have h0:=(HoldsK.cell hH hi (c:=0) (by omega)).1;have h1:=(HoldsK.cell hH hi (c:=1) (by omega)).1;have h2:=(HoldsK.cell hH hi (c:=2) (by omega)).1;have h3:=(HoldsK.cell hH hi (c:=3) (by omega)).1;rw[he]at h0 h1 h2 h3;exact⟨h0,h1,h2,h3⟩
theorem enc4{enc:α→List Value}{w0:World}{blk off:Nat}{d0:Array α}(R:RowK enc 4 w0 blk off d0)(x:α):∃a b c d:Value,enc x=[a,b,c,d]:=by
 have:=R.hk x
 match enc x,this with
 |[a,b,c,d],_=>exact⟨a,b,c,d,rfl⟩
theorem SWK.l4{enc:α→List Value}{w0 W:World}{blk off:Nat}{d0 dk:Array α}(h:SWK enc 4 w0 blk off dk W)(R:RowK enc 4 w0 blk off d0)(hs:dk.size=d0.size)(i:Nat)(hi:i<dk.size){x a b c d:_}(hx:x=dk[i]!)(he:enc x=[a,b,c,d]):
  W.cell? ⟨blk,off+i*4,none⟩=some a∧W.cell? ⟨blk,off+i*4+1,none⟩=some b∧W.cell? ⟨blk,off+i*4+2,none⟩=some c∧W.cell? ⟨blk,off+i*4+3,none⟩=some d:=by
 have hH:=h.holds R.hblk R.hH hs;subst hx;have h0:=(HoldsK.cell hH hi (c:=0) (by omega)).1;have h1:=(HoldsK.cell hH hi (c:=1) (by omega)).1;have h2:=(HoldsK.cell hH hi (c:=2) (by omega)).1;have h3:=(HoldsK.cell hH hi (c:=3) (by omega)).1;rw[he]at h0 h1 h2 h3;exact⟨h0,h1,h2,h3⟩
theorem SWK.f4{enc:α→List Value}{w0 W:World}{blk off:Nat}{d0 dk:Array α}(h:SWK enc 4 w0 blk off dk W)(R:RowK enc 4 w0 blk off d0)(hs:dk.size=d0.size)(i:Nat)(hi:i<dk.size):
  W.frozen? ⟨blk,off+i*4,none⟩=false∧W.frozen? ⟨blk,off+i*4+1,none⟩=false∧W.frozen? ⟨blk,off+i*4+2,none⟩=false∧W.frozen? ⟨blk,off+i*4+3,none⟩=false:=by
 have hH:=h.holds R.hblk R.hH hs;exact⟨(HoldsK.cell hH hi (c:=0) (by omega)).2,(HoldsK.cell hH hi (c:=1) (by omega)).2,(HoldsK.cell hH hi (c:=2) (by omega)).2,(HoldsK.cell hH hi (c:=3) (by omega)).2⟩
end Abs
end Go.Proofs.YtkopaeklihhdlaaGreat

/- slices.CompactFunc. Conditions: none. -/
import Derived.Shelf.SlSortCmp.KitK
import Derived.Lib.SlKept
import Derived.Lib.SliceRun
import Derived.Lib.Walk
import Derived.Sort.WalkB2
import Derived.Sort.WalkB12
import Derived.Deep.LoopGhost
import Derived.Test.YtneeginmfjageaaGreatCNilox1bc5c3
set_option linter.all false
namespace Go.Proofs.YtneeginmfjageaaGreat
namespace Abs
open Go Go.Proofs Go.Shelf Go.RowKit Go.Lib Go.Sort
variable {α:Type}[Inhabited α]
def aug(enc:α->List Value)(k:Nat)(e:∀x,(enc x).length=k)(d:Array α)(i:Nat)(x:α)(hi:i<d.size):
  setMany (flatK enc k d) (i*k) (enc x)=flatK enc k (d.setIfInBounds i x):=by
 refine ext_get! cn λt f=>?_;have b:t<d.size*k:=by simpa using f
 have c:0<k:=by
  grind
 rw[get_setMany _ _ _ t (by simpa using b),get_flatK _ _ _ t b,get_flatK _ _ _ t (by simpa using b),e];by_cases a:t/k=i
 ·have m:t - i*k=t%k:=by subst a;rw[Nat.mod_eq_sub_div_mul]
  rw[if_pos ((blk_iff k i t c).2 a),m,a,getElem!_set_same d i x hi]
 rw[if_neg (λh=>a ((blk_iff k i t c).1 h)),getElem!_set_other d i _ x a]
def SWK.put{enc:α->List Value}{k:Nat}{w0 W:World}{b off:Nat}{d:Array α}(h:SWK enc k w0 b off d W)(a:∀x,(enc x).length=k)(l:b<w0.heap.size)(i:Nat)(hi:i<d.size)(x:α):
  SWK enc k w0 b off (d.setIfInBounds i x) (W.setCells b (off+i*k) (enc x)):=by obtain⟨n,o,rfl⟩:=h;refine⟨n,o,?_⟩;unfold sortWorldK;rw[setCells_grow o b _ _ _ (by rw[size_putRowK];exact l)];unfold putRowK;rw[setCells_putRow _ _ _ _ _ _ (by rw[a,size_flatK];exact rowK_bnd d k i hi),aug enc k a d i x hi]
def UZ(b:Nat):∀(xs ys:List Value) (o:Nat) (w:World),w.setCells b o (xs++ys)=(w.setCells b o xs).setCells b (o+xs.length) ys
 |[],ys,o,w=>by simp[World.setCells]
 |x::xs,ys,o,w=>by
  show((w.setCell ⟨b,o,none⟩ x).setCells b (o+1) (xs++ys))=_;rw[UZ b xs ys (o+1)];show _=((w.setCell ⟨b,o,none⟩ x).setCells b (o+1) xs).setCells b (o+(xs.length+1)) ys
  grind
def SWK.puts{enc:α->List Value}{k:Nat}{w0:World}{l off:Nat}(g:∀x,(enc x).length=k)(e:l<w0.heap.size)(x:α):∀(n i:Nat) (f:Array α) (W:World),SWK enc k w0 l off f W->i+n<=f.size->
  ∃d:Array α,SWK enc k w0 l off d (W.setCells l (off+i*k) (List.replicate n (enc x)).flatten)/\d.size=f.size/\∀j,j<i->d[j]! =f[j]!
 |0,i,f,W,h,_=>⟨f,by simpa[World.setCells]using h,rfl,λ_ _=>rfl⟩|n+1,i,f,W,h,o=>by
  have m:=SWK.put h g e i Cl x;let⟨d,a,b,c⟩:=SWK.puts g e x n (i+1) _ _ m Cp;refine⟨d,?_,by rw[b];simp,λj p=>?_⟩;·rw[qCo,qCi,UZ,g,show off+i*k+k=off+(i+1)*k by rw[qAU,qCf,qBN]];exact a
  grind
def alF(z:Array Value)(c:0<z.size)(n:Nat):(Builtin.zeroCells z n).toList=(List.replicate n z.toList).flatten:=by
 have k:∀n,(List.range (n*z.size)).map (λi=>z[i%z.size]!)=(List.replicate n z.toList).flatten:=by
  intro n
  induction n with|zero=>simp|succ n a=>
   rw[qAU,qCf,List.range_add,qBj,a,List.replicate_succ',List.flatten_append];congr 1;simp only[qBh,qCi,List.flatten_nil,qAt];apply qBO;·simp
   intro i d b;have h:i<z.size:=by simpa using b
   simp[qCl h,h]
 unfold Builtin.zeroCells
 simp_all
abbrev z31:List Value:=[.int .i64 0,.int .i64 0,.string ⟨#[]⟩,.slice none 0 0]
def atS(enc:α->List Value)(z:enc default=z31){w0 w:World}{b off:Nat}{e d:Array α}(R:RowK enc 4 w0 b off e)(S:SWK enc 4 w0 b off d w)(hs:d.size=e.size)(i n c:Nat)(hi:i+n<=d.size)(ty:TypeId):
  (Builtin.clear_ #[27] ty #[.slice (some ⟨b,off+i*4,none⟩) n c]).run Tryz.prog w=.ok (.tuple #[]) (w.setCells b (off+i*4) (List.replicate n (enc default)).flatten):=by
 have t:Tryz.prog.underlying 27=some (.slice 40):=by kernel_rfl
 have g:∀w,(zeroValue 40).run Tryz.prog w=.ok (.agg #[.int .i64 0,.int .i64 0,.string ⟨#[]⟩,.slice none 0 0]) w:=λ_=>by kernel_rfl
 cases n with|zero=>simp[Builtin.clear_,run_underlying t,World.setCells]|succ m=>
  have h:(Builtin.zeroCells (Value.agg #[.int .i64 0,.int .i64 0,.string ⟨#[]⟩,.slice none 0 0]).cells (m+1)).toList=(List.replicate (m+1) (enc default)).flatten:=by rw[alF _ (by simp[Value.cells]),z];rfl
  have s:=stores_of_holds Tryz.prog (S.holds R.hblk R.hH hs) (i*4) (List.replicate (m+1) (enc default)).flatten (by rw[size_flatK];simp[R.hk];omega) (by intro v a;let⟨l,j,f⟩:=List.mem_flatten.1 a;rw[List.eq_of_mem_replicate j]at f;exact R.h1 _ v f)
  simp only[Builtin.clear_];simp[run_underlying t,g,h,s]
def SWK.c4{enc:α->List Value}{w0 W:World}{l off:Nat}{f k:Array α}(h:SWK enc 4 w0 l off k W)(R:RowK enc 4 w0 l off f)(hs:k.size=f.size)(i:Nat)(hi:i<k.size){x a b c d:_}(g:x=k[i]!)(j:enc x=[a,b,c,d])(n:Nat)(os:Array Obj):
  (grow (W.drewN n) os).cell? ⟨l,off+i*4,none⟩=some a/\(grow (W.drewN n) os).cell? ⟨l,off+i*4+1,none⟩=some b/\(grow (W.drewN n) os).cell? ⟨l,off+i*4+2,none⟩=some c/\(grow (W.drewN n) os).cell? ⟨l,off+i*4+3,none⟩=some d:=by
 have e:=(h.grown n os).holds R.hblk R.hH hs;have m:=(HoldsK.cell e hi (c:=0) Cl).1;have o:=(HoldsK.cell e hi (c:=1) Cl).1;have p:=(HoldsK.cell e hi (c:=2) Cl).1;have q:=(HoldsK.cell e hi (c:=3) Cl).1
 grind
def enc4{enc:α->List Value}{w0:World}{l off:Nat}{e:Array α}(R:RowK enc 4 w0 l off e)(x:α):∃a b c d:Value,enc x=[a,b,c,d]:=by
 have:=R.hk x
 match enc x,this with|[a,b,c,d],_=>exact⟨a,b,c,d,rfl⟩
def SWK.l4{enc:α->List Value}{w0 W:World}{l off:Nat}{f k:Array α}(h:SWK enc 4 w0 l off k W)(R:RowK enc 4 w0 l off f)(hs:k.size=f.size)(i:Nat)(hi:i<k.size){x a b c d:_}(g:x=k[i]!)(j:enc x=[a,b,c,d]):
  W.cell? ⟨l,off+i*4,none⟩=some a/\W.cell? ⟨l,off+i*4+1,none⟩=some b/\W.cell? ⟨l,off+i*4+2,none⟩=some c/\W.cell? ⟨l,off+i*4+3,none⟩=some d:=by
 have e:=h.holds R.hblk R.hH hs;have m:=(HoldsK.cell e hi (c:=0) Cl).1;have n:=(HoldsK.cell e hi (c:=1) Cl).1;have o:=(HoldsK.cell e hi (c:=2) Cl).1;have p:=(HoldsK.cell e hi (c:=3) Cl).1
 grind
def SWK.f4{enc:α->List Value}{w0 W:World}{b off:Nat}{e d:Array α}(h:SWK enc 4 w0 b off d W)(R:RowK enc 4 w0 b off e)(hs:d.size=e.size)(i:Nat)(hi:i<d.size):
  W.frozen? ⟨b,off+i*4,none⟩=false/\W.frozen? ⟨b,off+i*4+1,none⟩=false/\W.frozen? ⟨b,off+i*4+2,none⟩=false/\W.frozen? ⟨b,off+i*4+3,none⟩=false:=by have a:=h.holds R.hblk R.hH hs;exact⟨(HoldsK.cell a hi (c:=0) Cl).2,(HoldsK.cell a hi (c:=1) Cl).2,(HoldsK.cell a hi (c:=2) Cl).2,(HoldsK.cell a hi (c:=3) Cl).2⟩
end Abs
end Go.Proofs.YtneeginmfjageaaGreat

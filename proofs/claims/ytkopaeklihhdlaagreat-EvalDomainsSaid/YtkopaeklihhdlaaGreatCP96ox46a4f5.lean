/-
  The values of a type in their order: numbers, pairs and subsets are in strictly ascending order. Conditions: none.
-/
import Derived.Test.YtkopaeklihhdlaaGreatCDzoxad2fc4
import Derived.Test.YtkopaeklihhdlaaGreatCP52oxdc650a
set_option linter.all false
namespace Go.Proofs.YtkopaeklihhdlaaGreat
namespace Abs
open Go
theorem aie{k a b:Int}{s:Str}{xs ys:List Val}(h:a<b):nN (.mk k a s xs) (.mk k b s ys):=by
 unfold nN;rw[Bz,xX];exact .inr ⟨(uF _ _).2 rfl,(xX _ _).2 (.inl ((YU _ _).2 h))⟩
theorem LH{k n:Int}{s:Str}{xs ys:List Val}(h:dS xs ys<0):nN (.mk k n s xs) (.mk k n s ys):=by
 unfold nN;rw[Bz,xX];refine .inr ⟨(uF _ _).2 rfl,(xX _ _).2 (.inr ⟨(uF _ _).2 rfl,(xX _ _).2 (.inr ⟨(Kn _ _).2 rfl,h⟩)⟩)⟩
theorem TW{a b:Val}{xs ys:List Val}(h:nN a b):dS (a::xs) (b::ys)<0:=by
 rw[uz,xX];exact .inl h
theorem abH{a:Val}{xs ys:List Val}:dS (a::xs) (a::ys)=dS xs ys:=by
 rw[uz,(nK a a).2 rfl];rfl
theorem Z6(p:List Val){xs ys:List Val}:dS (p++xs) (p++ys)=dS xs ys:=by
 induction p with
 |nil=>rfl
 |cons a p ih=>rw[qBV,qBV,abH,ih]
theorem ajs{a:Val}{xs:List Val}:dS [] (a::xs)<0:=by
 simp[dS]
def ups(f:Int→Val):Int→Nat→List Val
 |_,0=>[]
 |x,m+1=>f x::ups f (x+1) m
theorem Bq(f:Int→Val):∀(m:Nat) (x:Int),(ups f x m).length=m
 |0,_=>rfl
 |m+1,x=>by simp[ups,Bq f m (x+1)]
theorem Rj{f:Int→Val}:∀{m:Nat} {x:Int} {v:Val},v∈ups f x m→∃y,x≤y∧y<x+m∧v=f y
 |0,x,v,h=>by cases h
 |m+1,x,v,h=>by
  rcases qAs.1 h with rfl|h
  ·exact⟨x,by omega,by omega,rfl⟩
  ·obtain⟨y,h1,h2,h3⟩:=Rj h;exact⟨y,by omega,by omega,h3⟩
theorem XU{f:Int→Val}(hf:∀a b,a<b→nN (f a) (f b)):∀(m:Nat) (x:Int),(ups f x m).Pairwise nN
 |0,_=>.nil
 |m+1,x=>.cons (fun v hv=>by obtain⟨y,h1,_,rfl⟩:=Rj hv;exact hf _ _ (by omega)) (XU hf m (x+1))
theorem aan(f:Int→Val):∀(m:Nat) (x:Int),ups f x m=(List.range m).map fun(k:Nat)=>f (x+(k:Int))
 |0,_=>rfl
 |m+1,x=>by
  rw[ups,aan f m (x+1),List.range_succ_eq_map,qAA,qBt];congr 1
  ·simp
  ·refine qBY fun k _=>?_;simp only[Function.comp];congr 1;omega
theorem Ot(la lb:List Val):(la.flatMap fun a=>lb.map fun b=>pV a b).length=la.length*lb.length:=by
 induction la with
 |nil=>simp
 |cons a la ih=>simp only[qBw,qAl,qAo,ih,qAv,Nat.succ_mul];omega
theorem Zy{la lb:List Val}{v:Val}(h:v∈la.flatMap fun a=>lb.map fun b=>pV a b):∃a∈la,∃b∈lb,v=pV a b:=by
 obtain⟨a,ha,h⟩:=qCK.1 h;obtain⟨b,hb,rfl⟩:=qAQ.1 h;exact⟨a,ha,b,hb,rfl⟩
theorem ai2{la lb:List Val}(ha:la.Pairwise nN)(hb:lb.Pairwise nN):(la.flatMap fun a=>lb.map fun b=>pV a b).Pairwise nN:=by
 induction ha with
 |nil=>exact .nil
 |@cons a la h1 _ ih=>
  rw[qBw,qCu];refine⟨?_,ih,fun x hx y hy=>?_⟩
  ·rw[List.pairwise_map];exact hb.imp fun h=>LH (by rw[abH];exact TW h)
  ·obtain⟨b,_,rfl⟩:=qAQ.1 hx;obtain⟨a',ha',b',_,rfl⟩:=Zy hy;exact LH (TW (h1 a' ha'))
theorem GY:∀{later fs0:List Val} {s:Val},s∈Fv fs0 later→∃u y,u∈later∧s=.mk 5 0 [] (fs0++u::y)∧(u::y).Sublist later
 |[],fs0,s,h=>by simp[Fv]at h
 |v::rest,fs0,s,h=>by
  simp only[Fv,qBV,qAs,qBn]at h;rcases h with rfl|h|h
  ·exact⟨v,[],by simp,rfl,by simp⟩
  ·obtain⟨u,y,_,h2,h3⟩:=GY h;exact⟨v,u::y,by simp,by rw[h2];simp,.cons₂ v h3⟩
  ·obtain⟨u,y,h1,h2,h3⟩:=GY h;exact⟨u,y,by simp[h1],h2,.cons v h3⟩
theorem apS{later fs0:List Val}{s:Val}(h:s∈bh fs0 later):∃y,s=.mk 5 0 [] (fs0++y)∧y.Sublist later:=by
 rcases qAs.1 h with rfl|h
 ·exact⟨[],by simp,List.nil_sublist _⟩
 ·obtain⟨u,y,_,h2,h3⟩:=GY h;exact⟨u::y,h2,h3⟩
theorem ai9{later fs0:List Val}{s:Val}(h:s∈Fv fs0 later):nN (.mk 5 0 [] fs0) s:=by
 obtain⟨u,y,_,rfl,_⟩:=GY h;refine LH ?_;have:=Z6 fs0 (xs:=[]) (ys:=u::y);rw[qAK]at this;rw[this];exact ajs
theorem Yc:∀{later fs0:List Val},later.Pairwise nN→(Fv fs0 later).Pairwise nN
 |[],fs0,_=>.nil
 |v::rest,fs0,h=>by
  obtain⟨h1,h2⟩:=qBk.1 h;rw[Fv,qCu];refine⟨.cons (fun s hs=>ai9 hs) (Yc h2),Yc h2,fun x hx y hy=>?_⟩;obtain⟨u,z,hu,rfl,_⟩:=GY hy;have hx':∃w,x=.mk 5 0 [] (fs0++v::w):=by
   rcases qAs.1 hx with rfl|hx
   ·exact⟨[],rfl⟩
   ·obtain⟨u',y',_,rfl,_⟩:=GY hx;exact⟨u'::y',by simp⟩
  obtain⟨w,rfl⟩:=hx';exact LH (by rw[Z6];exact TW (h1 u hu))
theorem apW{later fs0:List Val}(h:later.Pairwise nN):(bh fs0 later).Pairwise nN:=.cons (fun _ hs=>ai9 hs) (Yc h)
theorem Y1:∀(later fs0:List Val),(Fv fs0 later).length+1=2^later.length
 |[],_=>rfl
 |v::rest,fs0=>by
  have h1:=Y1 rest (fs0++[v]);have h2:=Y1 rest fs0;simp only[Fv,qAl,qAv,Nat.pow_succ];omega
theorem VE(later fs0:List Val):(bh fs0 later).length=2^later.length:=Y1 later fs0
theorem afJ:∀{l:List Val},l.Pairwise nN→C9 l=true
 |[],_=>rfl
 |[_],_=>rfl
 |a::b::r,h=>by
  obtain⟨h1,h2⟩:=qBk.1 h;have:=h1 b (by simp);unfold nN at this;simp only[C9,afJ h2,qCf,qBj,decide_eq_false_iff_not];omega
end Abs
end Go.Proofs.YtkopaeklihhdlaaGreat

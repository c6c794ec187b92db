/-
  Union of the program and of the document come to the same plain answer; the law TypingUnions. Conditions: none; lemmas without a program.
-/
import Derived.Test.YtbijdmihdagfaaaGreatDoorCP1ox2e3322
set_option linter.all false
namespace Go.Proofs.YtbijdmihdagfaaaGreatDoor
namespace Abs
open Go
theorem agA{α β γ:Type}(l:List α)(l':List β)(i:Int)(F:α→β→Option γ):((idx l i).bind fun x=>(idx l' i).bind fun y=>F x y)=(idx (l.zip l') i).bind fun p=>F p.1 p.2:=by
 unfold idx;by_cases h:0≤i
 ·simp only[if_pos h,List.zip,List.getElem?_zipWith];cases l[i.toNat]?<;>cases l'[i.toNat]?<;>rfl
 ·simp only[if_neg h];rfl
theorem Qt{α β ρ:Type}(l:List α)(l':List β)(hlen:l.length=l'.length)(L:Nat→Nat→Int→Option (LR Unit ρ))(step:Nat→α→β→Option Bool)(p:α→β→Bool)(r:ρ)
  (hL:∀n k i,L n (k+1) i=cond (decide (i<(l.length:Int))) ((idx l i).bind fun x=>(idx l' i).bind fun y=>(step n x y).bind fun b=>cond b (some (.rt r)) (L n k (i+1))) (some (.nx ())))
  (hp:∀x∈l,∀y,Ev (fun n=>step n x y) (p x y)):Ev (fun n=>L n n 0) (cond ((l.zip l').any fun q=>p q.1 q.2) (.rt r) (.nx ())):=by
 refine kM (l.zip l') L (fun n q=>step n q.1 q.2) (fun q=>p q.1 q.2) r (fun n k i=>?_) (fun q hq=>hp q.1 (qDh hq).1 q.2);rw[hL,←agA l l' i fun x y=>(step n x y).bind fun b=>cond b (some (.rt r)) (L n k (i+1))];have:((l.zip l').length:Int)=(l.length:Int):=by rw[List.length_zip,←hlen,qDe]
 rw[this]
mutual
def bJ:Ty→Ty→Bool
 | .mk k n ks,.mk k' n' ks'=>(k==k')&&((n==n')&&nJ ks ks')
def nJ:List Ty→List Ty→Bool
 |[],[]=>true
 |[],_::_=>false
 |_::_,[]=>false
 |a::ar,b::br=>bJ a b&&nJ ar br
end
mutual
theorem FW:∀a b:Ty,bJ a b=true→a=b
 | .mk k n ks,.mk k' n' ks',h=>by
  simp only[bJ,qAa,beq_iff_eq]at h;obtain⟨h1,h2,h3⟩:=h;rw[h1,h2,adS ks ks' h3]
theorem adS:∀a b:List Ty,nJ a b=true→a=b
 |[],[],_=>rfl
 |[],_::_,h=>by cases h
 |_::_,[],h=>by cases h
 |a::ar,b::br,h=>by
  simp only[nJ,qAa]at h;rw[FW a b h.1,adS ar br h.2]
end
mutual
theorem I5:∀a:Ty,bJ a a=true
 | .mk k n ks=>by simp only[bJ,beq_self_eq_true,Yr ks,qBR]
theorem Yr:∀a:List Ty,nJ a a=true
 |[]=>rfl
 |a::ar=>by simp only[nJ,I5 a,Yr ar,qBR]
end
theorem JC:∀l l':List Ty,l.length=l'.length→(l.zip l').any (fun q=>!(bJ q.1 q.2))=!(nJ l l')
 |[],[],_=>rfl
 |[],_::_,h=>by cases h
 |_::_,[],h=>by cases h
 |a::ar,b::br,h=>by
  have:=JC ar br (by simpa using h);simp only[qCR,qCz,this,nJ];cases bJ a b<;>rfl
theorem Jl:∀l l':List Ty,l.length≠l'.length→nJ l l'=false
 |[],[],h=>absurd rfl h
 |[],_::_,_=>rfl
 |_::_,[],_=>rfl
 |a::ar,b::br,h=>by
  have:=Jl ar br (by simpa using h);simp only[nJ,this,qBD]
theorem Zk{α β:Type}(l:List α)(l':List β):((l.length:Int)!=(l'.length:Int))=!(l.length==l'.length):=ado l.length l'.length
theorem iG:∀t u:Ty,Ev (fun n=>bq n t u) (bJ t u):=Ty.ind fun k nm ks ih u=>by
 obtain⟨k',nm',ks'⟩:=u;refine Ev.succ ?_;show Ev (fun n=>nC n _ (.mk k nm ks) (.mk k' nm' ks')) _;unfold nC;simp only[Ty.kind,Ty.name,Ty.kids,bJ,bne,Zk];cases k==k' with
 |false=>exact Ev.ret _
 |true=>
  cases nm==nm' with
  |false=>exact Ev.ret _
  |true=>
   simp only[qAt,cond_false,qAb,qAy];cases hl:(ks.length:Int)==(ks'.length:Int)with
   |false=>
    have:ks.length≠ks'.length:=fun e=>by simp[e]at hl
    rw[Jl ks ks' this];exact Ev.ret _
   |true=>
    have hlen:ks.length=ks'.length:=by have:=beq_iff_eq.1 hl;omega
    simp only[qAt,cond_false];have h:=Qt ks ks' hlen (fun n k'' i=>BA n (bq n) (.mk k nm ks) (.mk k' nm' ks') k'' i) (fun n x y=>(bq n x y).bind fun b=>some (!b)) (fun x y=>!(bJ x y)) false
     (fun n k'' i=>by
      show cond _ _ _=_;congr 1;show(idx ks i).bind _=_;congr 1;funext x;show(idx ks' i).bind _=_;congr 1;funext y;simp only[qAU,qAb];rfl)
     (fun x hx y=>Ev.bind (ih x hx y) (Ev.ret _))
    rw[JC ks ks' hlen]at h;refine Ev.bind h ?_;cases nJ ks ks'
    ·exact Ev.ret _
    ·exact Ev.ret _
theorem Bp:∀t u:Ty,Ev (fun n=>eZ n t u) (bJ t u):=Ty.ind fun k nm ks ih u=>by
 obtain⟨k',nm',ks'⟩:=u;refine Ev.succ ?_;show Ev (fun n=>wV n _ _ (.mk k nm ks) (.mk k' nm' ks')) _;unfold wV;simp only[Ty.kind,Ty.name,Ty.kids,bJ];cases k==k' with
 |false=>exact Ev.ret _
 |true=>
  cases nm==nm' with
  |false=>exact Ev.ret _
  |true=>
   simp only[cond_true,qAy];refine Ev.bind (a:=nJ ks ks') (Ev.bind (a:=nJ ks ks') (Ev.succ ?_) (Ev.ret _)) (Ev.ret _);show Ev (fun n=>lT n _ _ ks ks') _;unfold lT;simp only[bne];cases hl:(ks.length:Int)==(ks'.length:Int)with
   |false=>
    have:ks.length≠ks'.length:=fun e=>by simp[e]at hl
    rw[Jl ks ks' this];exact Ev.ret _
   |true=>
    have hlen:ks.length=ks'.length:=by have:=beq_iff_eq.1 hl;omega
    simp only[qAt,cond_false];have h:=Qt ks ks' hlen (fun n k'' i=>vJ n (lM n) (eZ n) ks ks' k'' i) (fun n x y=>(eZ n x y).bind fun b=>some (!b)) (fun x y=>!(bJ x y)) false
     (fun n k'' i=>by
      show cond _ _ _=_;congr 1;congr 1;funext x;congr 1;funext y;simp only[qAU,qAb];rfl)
     (fun x hx y=>Ev.bind (ih x hx y) (Ev.ret _))
    rw[JC ks ks' hlen]at h;refine Ev.bind h ?_;cases nJ ks ks'
    ·exact Ev.ret _
    ·exact Ev.ret _
end Abs
end Go.Proofs.YtbijdmihdagfaaaGreatDoor

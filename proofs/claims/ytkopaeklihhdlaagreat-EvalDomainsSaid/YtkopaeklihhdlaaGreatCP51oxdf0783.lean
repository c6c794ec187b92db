/-
  Compare of both sides is one plain order of values. Conditions: none; lemmas without a program.
-/
import Derived.Test.YtkopaeklihhdlaaGreatCDgox2c5b64
import Derived.Test.YtkopaeklihhdlaaGreatCP2oxfa253e
set_option linter.all false
namespace Go.Proofs.YtkopaeklihhdlaaGreat
namespace Abs
open Go
theorem Val.ind{P:Val→Prop}(h:∀k n s ks,(∀t∈ks,P t)→P (.mk k n s ks))(t:Val):P t:=by
 match t with
 | .mk k n s ks=>exact h k n s ks fun u _=>Val.ind h u
termination_by SizeOf.sizeOf t
decreasing_by
 rename_i hu;have:=qCT hu;simp only[Val.mk.sizeOf_spec];omega
def lS(a b:Int):Int:=cond (decide (a<b)) (-1) (cond (decide (b<a)) 1 0)
mutual
def dJ:Val→Val→Int
 | .mk k n s ks,.mk k' n' s' ks'=>cond (lS k k' !=0) (lS k k') (cond (lS n n' !=0) (lS n n') (cond (Lib.compareBytes s s' !=0) (Lib.compareBytes s s') (dS ks ks')))
def dS:List Val→List Val→Int
 |[],[]=>0
 |[],_::_=> -1
 |_::_,[]=>1
 |a::asx,b::bs=>cond (dJ a b !=0) (dJ a b) (dS asx bs)
end
def Qn:List Val→List Val→LR Unit Int
 |[],_=>.nx ()
 |_::_,[]=>.rt 1
 |a::asx,b::bs=>cond (dJ a b !=0) (.rt (dJ a b)) (Qn asx bs)
theorem ac4:∀(asx bs:List Val) (x y:Nat),x+bs.length=y+asx.length→(match Qn asx bs with| .nx _=>cond (decide ((x:Int)<(y:Int))) (-1) 0| .rt r=>r)=dS asx bs
 |[],[],x,y,h=>by
  simp only[Qn,dS];rw[decide_eq_false (by simp at h;omega)];rfl
 |[],b::bs,x,y,h=>by
  simp only[Qn,dS];rw[decide_eq_true (by simp at h;omega)];rfl
 |a::asx,[],x,y,h=>rfl
 |a::asx,b::bs,x,y,h=>by
  simp only[Qn,dS];cases hc:(dJ a b !=0)with
  |true=>rfl
  |false=>exact ac4 asx bs x y (by simp at h;omega)
theorem YP(n:Nat)(a b:Int):cmp_Compare_int n a b=some (lS a b):=by
 unfold cmp_Compare_int lS;simp only[bne_self_eq_false,cond_false];cases decide (a<b)<;>cases decide (b<a)<;>rfl
theorem aoD(a b c:Int):Ev (fun n=>Gr n [a,b,c]) (cond (a !=0) a (cond (b !=0) b (cond (c !=0) c 0))):=by
 refine⟨4,fun n hn=>?_⟩;obtain⟨m,rfl⟩:∃m,n=m+4:=⟨n - 4,by omega⟩;show(tO (m+4) [a,b,c] (m+4) 0).bind _=_;have i0:idx [a,b,c] 0=some a:=rfl;have i1:idx [a,b,c] (0+1)=some b:=rfl;have i2:idx [a,b,c] (0+1+1)=some c:=rfl;simp only[tO,i0,i1,i2,qAb,show decide ((0:Int)<(([a,b,c]:List Int).length:Int))=true from rfl,show decide ((0+1:Int)<(([a,b,c]:List Int).length:Int))=true from rfl,show decide ((0+1+1:Int)<(([a,b,c]:List Int).length:Int))=true from rfl,show decide ((0+1+1+1:Int)<(([a,b,c]:List Int).length:Int))=false from rfl,cond_true,cond_false];cases a !=0<;>cases b !=0<;>cases c !=0<;>rfl
theorem aep:∀(asx:List Val),(∀a∈asx,∀b,Ev (fun n=>dW n a b) (dJ a b))→∀(bs pa pb:List Val),pa.length=pb.length→∃N,∀n,N≤n→∀k,asx.length+1≤k→eH n (fK n) (dW n) (pa++asx) (pb++bs) k (pa.length:Int)=some (Qn asx bs)
 |[],_,bs,pa,pb,hp=>by
  refine⟨0,fun n _ k hk=>?_⟩;obtain⟨j,rfl⟩:∃j,k=j+1:=⟨k - 1,by simp at hk;omega⟩;unfold eH;rw[decide_eq_false (by simp)];rfl
 |a::asx,H,[],pa,pb,hp=>by
  refine⟨0,fun n _ k hk=>?_⟩;obtain⟨j,rfl⟩:∃j,k=j+1:=⟨k - 1,by simp at hk;omega⟩;unfold eH;rw[decide_eq_true (by simp;omega),kJ];simp only[cond_true,qAb];rw[decide_eq_true (by simp;omega)];rfl
 |a::asx,H,b::bs,pa,pb,hp=>by
  obtain⟨N1,h1⟩:=H a (by simp) b;obtain⟨N2,h2⟩:=aep asx (fun x hx=>H x (by simp[hx])) bs (pa++[a]) (pb++[b]) (by simp[hp]);refine⟨N1+N2,fun n hn k hk=>?_⟩;obtain⟨j,rfl⟩:∃j,k=j+1:=⟨k - 1,by simp at hk;omega⟩;have h1:dW n a b=_:=h1 n (by omega);have h2:=h2 n (by omega) j (by simp at hk;omega);unfold eH;rw[decide_eq_true (by simp;omega),kJ];simp only[cond_true,qAb];rw[decide_eq_false (by simp;omega),show(pa.length:Int)=(pb.length:Int) by rw[hp],kJ];simp only[cond_false,qAb];rw[h1];simp only[qAb,Qn];cases hc:(dJ a b !=0)with
  |true=>rfl
  |false=>
   simp only[cond_false];rw[show(pb.length:Int)+1=((pa++[a]).length:Int) by simp[hp]];simpa using h2
theorem XQ(asx bs:List Val)(H:∀a∈asx,∀b,Ev (fun n=>dW n a b) (dJ a b)):Ev (fun n=>fK n asx bs) (dS asx bs):=by
 obtain⟨N,h⟩:=aep asx H bs [] [] rfl;refine Ev.succ ?_;refine⟨N+asx.length+1,fun n hn=>?_⟩;have:=h n (by omega) n (by omega);simp only[qAY,qAE]at this;show jo n _ _ asx bs=_;unfold jo;rw[show((0:Nat):Int)=0 from rfl]at this;rw[this];have he:=ac4 asx bs asx.length bs.length (by omega);rw[←he];cases Qn asx bs with
 |rt r=>rfl
 |nx u=>
  simp only[qAb,LR.el];cases decide ((asx.length:Int)<(bs.length:Int))<;>rfl
theorem uD(a b:Val):Ev (fun n=>dW n a b) (dJ a b):=by
 revert b
 induction a using Val.ind with
 |h k n s ks ih=>
  intro b;obtain⟨k',n',s',ks'⟩:=b;have hk:=XQ ks ks' ih;refine Ev.succ ?_;show Ev (fun m=>qV m _ _ (.mk k n s ks) (.mk k' n' s' ks')) _;unfold qV;simp only[YP,strings_Compare,qAb,Val.kind,Val.n,Val.name,Val.kids];refine Ev.bind (aoD _ _ _) ?_;simp only[dJ];cases h1:(lS k k' !=0)with
  |true=>simp only[cond_true,h1];exact Ev.ret _
  |false=>
   cases h2:(lS n n' !=0)with
   |true=>simp only[cond_true,cond_false,h2];exact Ev.ret _
   |false=>
    cases h3:(Lib.compareBytes s s' !=0)with
    |true=>simp only[cond_true,cond_false,h3];exact Ev.ret _
    |false=>
     simp only[cond_false,bne_self_eq_false];exact Ev.bind hk (Ev.ret _)
end Abs
end Go.Proofs.YtkopaeklihhdlaaGreat

/-
  The order of values is one: laws of cmpV. Conditions: none; lemmas without a program.
-/
import Derived.Test.YtkopaeklihhdlaaGreatCP51oxdf0783
set_option linter.all false
namespace Go.Proofs.YtkopaeklihhdlaaGreat
namespace Abs
open Go
theorem YU(a b:Int):lS a b<0↔a<b:=by
 unfold lS;by_cases h:a<b
 ·simp[h]
 ·by_cases h2:b<a<;>simp[h,h2]
theorem uF(a b:Int):lS a b=0↔a=b:=by
 unfold lS;by_cases h:a<b
 ·simp[h];omega
 ·by_cases h2:b<a
  ·simp[h,h2];omega
  ·simp[h,h2];omega
theorem aav(a b:Int):lS b a= - lS a b:=by
 unfold lS;by_cases h:a<b
 ·have:¬b<a:=by omega
  simp[h,this]
 ·by_cases h2:b<a<;>simp[h,h2]
theorem Kn:∀(s t:List UInt8),Lib.compareBytes s t=0↔s=t
 |[],[]=>by simp[Lib.compareBytes]
 |[],_::_=>by simp[Lib.compareBytes]
 |_::_,[]=>by simp[Lib.compareBytes]
 |a::s,b::t=>by
  have ih:=Kn s t;unfold Lib.compareBytes;by_cases h1:a<b
  ·simp only[h1,if_true];constructor
   ·intro h;cases h
   ·intro h;cases h;exact absurd h1 (by simp)
  ·by_cases h2:b<a
   ·simp only[h1,h2,if_false,if_true];constructor
    ·intro h;cases h
    ·intro h;cases h;exact absurd h2 (by simp)
   ·simp only[h1,h2,if_false];have:a=b:=qCG (by simpa using h2) (by simpa using h1);subst this;rw[ih];simp
theorem agM:∀(s t:List UInt8),Lib.compareBytes t s= - Lib.compareBytes s t
 |[],[]=>by simp[Lib.compareBytes]
 |[],_::_=>by simp[Lib.compareBytes]
 |_::_,[]=>by simp[Lib.compareBytes]
 |a::s,b::t=>by
  have ih:=agM s t;unfold Lib.compareBytes;by_cases h1:a<b
  ·have:¬b<a:=fun h=>absurd (UInt8.lt_trans h1 h) (by simp);simp[h1,this]
  ·by_cases h2:b<a
   ·simp[h1,h2]
   ·simp[h1,h2,ih]
theorem amt:∀(s t u:List UInt8),Lib.compareBytes s t<0→Lib.compareBytes t u<0→Lib.compareBytes s u<0
 |[],[],_,h,_=>by simp[Lib.compareBytes]at h
 |_::_,[],_,h,_=>by simp[Lib.compareBytes]at h
 |[],_::_,[],_,h=>by simp[Lib.compareBytes]at h
 |[],_::_,_::_,_,_=>by simp[Lib.compareBytes]
 |_::_,_::_,[],_,h=>by simp[Lib.compareBytes]at h
 |a::s,b::t,c::u,h1,h2=>by
  have ih:=amt s t u;unfold Lib.compareBytes at h1 h2⊢;by_cases ab:a<b
  ·by_cases bc:b<c
   ·simp[UInt8.lt_trans ab bc]
   ·by_cases cb:c<b
    ·simp[bc,cb]at h2
    ·have:b=c:=qCG (by simpa using cb) (by simpa using bc);subst this;simp[ab]
  ·by_cases ba:b<a
   ·simp[ab,ba]at h1
   ·have:a=b:=qCG (by simpa using ba) (by simpa using ab);subst this;simp only[ab,if_false]at h1;by_cases ac:a<c
    ·simp[ac]
    ·by_cases ca:c<a
     ·simp[ac,ca]at h2
     ·simp only[ac,ca,if_false]at h2⊢;exact ih h1 h2
def lex(x y:Int):Int:=cond (x !=0) x y
theorem xX(x y:Int):lex x y<0↔x<0∨x=0∧y<0:=by
 unfold lex;by_cases h:x=0
 ·subst h;simp
 ·have:(x !=0)=true:=by simp[h]
  rw[this];simp[h]
theorem H7(x y:Int):lex x y=0↔x=0∧y=0:=by
 unfold lex;by_cases h:x=0
 ·subst h;simp
 ·have:(x !=0)=true:=by simp[h]
  rw[this];simp[h]
theorem MH(x y:Int):lex (-x) (-y)= - lex x y:=by
 unfold lex;by_cases h:x=0
 ·subst h;simp
 ·have h1:(x !=0)=true:=by simp[h]
  have h2:(-x !=0)=true:=by simp;omega
  rw[h1,h2];simp
theorem Bz(k n:Int)(s:Str)(ks:List Val)(k' n':Int)(s':Str)(ks':List Val):dJ (.mk k n s ks) (.mk k' n' s' ks')=lex (lS k k') (lex (lS n n') (lex (Lib.compareBytes s s') (dS ks ks'))):=by
 unfold dJ lex;rfl
theorem uz(a b:Val)(asx bs:List Val):dS (a::asx) (b::bs)=lex (dJ a b) (dS asx bs):=by
 simp only[dS,lex]
mutual
theorem nK:∀(a b:Val),dJ a b=0↔a=b
 | .mk k n s ks,.mk k' n' s' ks'=>by
  rw[Bz,H7,H7,H7,uF,uF,Kn,Ck ks ks'];simp
theorem Ck:∀(asx bs:List Val),dS asx bs=0↔asx=bs
 |[],[]=>by simp[dS]
 |[],_::_=>by simp[dS]
 |_::_,[]=>by simp[dS]
 |a::asx,b::bs=>by
  rw[uz,H7,nK a b,Ck asx bs];simp
end
mutual
theorem oL:∀(a b:Val),dJ b a= - dJ a b
 | .mk k n s ks,.mk k' n' s' ks'=>by
  rw[Bz,Bz,aav k k',aav n n',agM s s',UJ ks ks',MH,MH,MH]
theorem UJ:∀(asx bs:List Val),dS bs asx= - dS asx bs
 |[],[]=>by simp[dS]
 |[],_::_=>by simp[dS]
 |_::_,[]=>by simp[dS]
 |a::asx,b::bs=>by
  rw[uz,uz,oL a b,UJ asx bs,MH]
end
mutual
theorem D9:∀(a b c:Val),dJ a b<0→dJ b c<0→dJ a c<0
 | .mk k n s ks,.mk k' n' s' ks',.mk k'' n'' s'' ks'',h1,h2=>by
  rw[Bz,xX,xX,xX,YU,uF,YU,uF,Kn]at h1 h2⊢;rcases h1 with h1|⟨rfl,h1⟩
  ·rcases h2 with h2|⟨rfl,h2⟩
   ·left;omega
   ·left;exact h1
  ·rcases h2 with h2|⟨rfl,h2⟩
   ·left;exact h2
   ·right;refine⟨rfl,?_⟩;rcases h1 with h1|⟨rfl,h1⟩
    ·rcases h2 with h2|⟨rfl,h2⟩
     ·left;omega
     ·left;exact h1
    ·rcases h2 with h2|⟨rfl,h2⟩
     ·left;exact h2
     ·right;refine⟨rfl,?_⟩;rcases h1 with h1|⟨rfl,h1⟩
      ·rcases h2 with h2|⟨rfl,h2⟩
       ·left;exact amt _ _ _ h1 h2
       ·left;exact h1
      ·rcases h2 with h2|⟨rfl,h2⟩
       ·left;exact h2
       ·right;exact⟨rfl,abG ks ks' ks'' h1 h2⟩
theorem abG:∀(asx bs cs:List Val),dS asx bs<0→dS bs cs<0→dS asx cs<0
 |[],[],_,h,_=>by simp[dS]at h
 |_::_,[],_,h,_=>by simp[dS]at h
 |[],_::_,[],_,h=>by simp[dS]at h
 |[],_::_,_::_,_,_=>by simp[dS]
 |_::_,_::_,[],_,h=>by simp[dS]at h
 |a::asx,b::bs,c::cs,h1,h2=>by
  rw[uz,xX,nK]at h1 h2⊢;rcases h1 with h1|⟨rfl,h1⟩
  ·rcases h2 with h2|⟨rfl,h2⟩
   ·left;exact D9 a b c h1 h2
   ·left;exact h1
  ·rcases h2 with h2|⟨rfl,h2⟩
   ·left;exact h2
   ·right;exact⟨rfl,abG asx bs cs h1 h2⟩
end
def Jf(a b:Val):Bool:=decide (dJ a b≤0)
theorem Z8(a b c:Val)(h1:Jf a b=true)(h2:Jf b c=true):Jf a c=true:=by
 simp only[Jf,decide_eq_true_eq]at *;rcases qCx h1 with h1|h1
 ·rcases qCx h2 with h2|h2
  ·exact qCo (D9 a b c h1 h2)
  ·rw[(nK b c).1 h2]at h1;exact qCo h1
 ·rw[(nK a b).1 h1];exact h2
def nN(a b:Val):Prop:=dJ a b<0
theorem WB(a:Val):¬nN a a:=by
 have:=(nK a a).2 rfl;unfold nN;omega
theorem aiR{a b:Val}(h:nN a b):¬nN b a:=by
 unfold nN at *;rw[oL a b];omega
def Ij(a:Val):List Val→List Val
 |[]=>[a]
 |b::l=>cond (decide (dJ a b<0)) (a::b::l) (cond (dJ a b==0) (b::l) (b::Ij a l))
def sortV:List Val→List Val
 |[]=>[]
 |a::l=>Ij a (sortV l)
theorem TA(a:Val):∀(l:List Val) (x:Val),x∈Ij a l↔x=a∨x∈l
 |[],x=>by simp[Ij]
 |b::l,x=>by
  unfold Ij;by_cases h:dJ a b<0
  ·simp[h]
  ·by_cases h2:dJ a b=0
   ·have:=(nK a b).1 h2;subst this;simp[h2]
   ·have e:(dJ a b==0)=false:=by simp[h2]
    simp only[h,decide_false,cond_false,e,qAs,TA a l x];constructor
    ·rintro(h|h|h)
     ·exact .inr (.inl h)
     ·exact .inl h
     ·exact .inr (.inr h)
    ·rintro(h|h|h)
     ·exact .inr (.inl h)
     ·exact .inl h
     ·exact .inr (.inr h)
theorem SL(a:Val):∀(l:List Val),l.Pairwise nN→(Ij a l).Pairwise nN
 |[],_=>by simp[Ij]
 |b::l,h=>by
  have h1:=qBk.1 h;unfold Ij;by_cases hc:dJ a b<0
  ·simp only[hc,decide_true,cond_true];refine qBk.2 ⟨fun x hx=>?_,h⟩;rcases qAs.1 hx with rfl|hx
   ·exact hc
   ·exact D9 a b x hc (h1.1 x hx)
  ·by_cases h2:dJ a b=0
   ·simp[h2];exact qBk.1 h
   ·have e:(dJ a b==0)=false:=by simp[h2]
    simp only[hc,decide_false,cond_false,e];refine qBk.2 ⟨fun x hx=>?_,SL a l h1.2⟩;rcases(TA a l x).1 hx with rfl|hx
    ·show dJ b x<0;rw[oL x b];omega
    ·exact h1.1 x hx
theorem uG:∀(l:List Val) (x:Val),x∈sortV l↔x∈l
 |[],x=>by simp[sortV]
 |a::l,x=>by rw[sortV,TA,uG l x];simp
theorem vS:∀(l:List Val),(sortV l).Pairwise nN
 |[]=>by simp[sortV]
 |a::l=>SL a _ (vS l)
theorem Nt:∀(l m:List Val),l.Pairwise nN→m.Pairwise nN→(∀x,x∈l↔x∈m)→l=m
 |[],[],_,_,_=>rfl
 |[],b::m,_,_,h=>by have:=(h b).2 (by simp);cases this
 |a::l,[],_,_,h=>by have:=(h a).1 (by simp);cases this
 |a::l,b::m,hl,hm,h=>by
  have h1:=qBk.1 hl;have h2:=qBk.1 hm;have e:a=b:=by
   rcases qAs.1 ((h a).1 (by simp))with e|ha
   ·exact e
   ·rcases qAs.1 ((h b).2 (by simp))with e|hb
    ·exact e.symm
    ·exact absurd (h1.1 b hb) (aiR (h2.1 a ha))
  subst e;rw[Nt l m h1.2 h2.2 fun x=>?_];constructor
  ·intro hx;rcases qAs.1 ((h x).1 (by simp[hx]))with e|hx'
   ·exact absurd (e▸h1.1 x hx) (WB a)
   ·exact hx'
  ·intro hx;rcases qAs.1 ((h x).2 (by simp[hx]))with e|hx'
   ·exact absurd (e▸h2.1 x hx) (WB a)
   ·exact hx'
theorem BZ{l m:List Val}(hm:m.Pairwise nN)(h:∀x,x∈m↔x∈l):m=sortV l:=
 Nt _ _ hm (vS l) fun x=>by rw[h x,uG]
end Abs
end Go.Proofs.YtkopaeklihhdlaaGreat

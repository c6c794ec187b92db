/-
  The order of values. Conditions: none; lemmas without a program.
-/
import Derived.Lib.Bytealg
import Derived.Test.YthgdaonechbgmaaGreatCD2ox127687
set_option linter.all false
namespace Go.Proofs.YthgdaonechbgmaaGreat
namespace Abs
open Go

theorem Val.ind{P:Val→Prop}(h:∀k n s ks,(∀t∈ks,P t)→P (.mk k n s ks))(t:Val):P t:=by
  match t with
  | .mk k n s ks=>exact h k n s ks fun u _=>Val.ind h u
termination_by SizeOf.sizeOf t
decreasing_by
  rename_i hu;have:=qCH hu;simp only[Val.mk.sizeOf_spec];omega

mutual
def gU:Val→Prop
  | .mk _ _ _ ks=>ks.length≤9223372036854775807∧UF ks
def UF:List Val→Prop
  |[]=>True
  |v::vs=>gU v∧UF vs
end
theorem abF:∀{vs:List Val},UF vs→∀v∈vs,gU v
  |[],_,_,h=>by cases h
  |v::vs,h,u,hu=>by
    simp only[UF]at h;rcases qAh.1 hu with rfl|hu
    · exact h.1
    · exact abF h.2 u hu
theorem gU.kids{v:Val}(h:gU v):v.kids.length≤9223372036854775807∧∀u∈v.kids,gU u:=by
  cases v;simp only[gU]at h;exact⟨h.1,abF h.2⟩

def kP(a b:Int):Int:=cond (decide (a<b)) (-1) (cond (decide (b<a)) 1 0)
mutual
def bQ:Val→Val→Int
  | .mk k n s ks,.mk k' n' s' ks'=>cond (kP k k' !=0) (kP k k') (cond (kP n n' !=0) (kP n n') (cond (Lib.compareBytes s s' !=0) (Lib.compareBytes s s') (eZ ks ks')))
def eZ:List Val→List Val→Int
  |[],[]=>0
  |[],_::_=> -1
  |_::_,[]=>1
  |a::asx,b::bs=>cond (bQ a b !=0) (bQ a b) (eZ asx bs)
end
/-! ### The program's -/

theorem am5:∀a b:Str,Lib.compareBytes a b= -1∨Lib.compareBytes a b=0∨Lib.compareBytes a b=1
  |[],[]=>by simp[Lib.compareBytes]
  |[],_::_=>by simp[Lib.compareBytes]
  |_::_,[]=>by simp[Lib.compareBytes]
  |a::x,b::y=>by
    have:=am5 x y;simp only[Lib.compareBytes];split
    · simp
    · split
      · simp
      · exact this
theorem Og:∀a b:Str,Op.bytesLess a b=(Lib.compareBytes a b== -1)∧(a==b)=(Lib.compareBytes a b==0)
  |[],[]=>by simp[Op.bytesLess,Lib.compareBytes]
  |[],_::_=>by simp[Op.bytesLess,Lib.compareBytes]
  |_::_,[]=>by simp[Op.bytesLess,Lib.compareBytes]
  |a::x,b::y=>by
    have ih:=Og x y;simp only[Op.bytesLess,Lib.compareBytes];by_cases h1:a<b
    · have:(a==b)=false:=by
        apply beq_false_of_ne;rintro rfl;exact absurd h1 (by simp)
      simp[h1,this]
    · by_cases h2:b<a
      · have:(a==b)=false:=by
          apply beq_false_of_ne;rintro rfl;exact absurd h2 (by simp)
        simp[h1,h2,this]
      · have:a=b:=by
          have h1':=UInt8.not_lt.1 h1;have h2':=UInt8.not_lt.1 h2;exact qDf h2' h1'
        subst this;simp[ih.1,←ih.2]

theorem ad7(a b:Int):kP a b<0↔a<b:=by
  unfold kP
  grind
theorem pF(a b:Int):kP a b=0↔a=b:=by
  unfold kP
  grind
theorem anp(a b:Int):kP b a= - kP a b:=by
  unfold kP
  grind
theorem Qp:∀(s t:List UInt8),Lib.compareBytes s t=0↔s=t
  |[],[]=>by simp[Lib.compareBytes]
  |[],_::_=>by simp[Lib.compareBytes]
  |_::_,[]=>by simp[Lib.compareBytes]
  |a::s,b::t=>by
    have ih:=Qp s t;unfold Lib.compareBytes;by_cases h1:a<b
    · simp only[h1,if_true]
      constructor
      · intro h;cases h
      · intro h;cases h;exact absurd h1 (by simp)
    · by_cases h2:b<a
      · simp only[h1,h2,if_false,if_true]
        constructor
        · intro h;cases h
        · intro h;cases h;exact absurd h2 (by simp)
      · simp only[h1,h2,if_false]
        have:a=b:=qDf (by simpa using h2) (by simpa using h1);subst this;rw[ih];simp
theorem auU:∀(s t:List UInt8),Lib.compareBytes t s= - Lib.compareBytes s t
  |[],[]=>by simp[Lib.compareBytes]
  |[],_::_=>by simp[Lib.compareBytes]
  |_::_,[]=>by simp[Lib.compareBytes]
  |a::s,b::t=>by
    have ih:=auU s t;unfold Lib.compareBytes;by_cases h1:a<b
    · have:¬b<a:=fun h=>absurd (UInt8.lt_trans h1 h) (by simp)
      simp[h1,this]
    · by_cases h2:b<a
      · simp[h1,h2]
      · simp[h1,h2,ih]
theorem aDC:∀(s t u:List UInt8),Lib.compareBytes s t<0→Lib.compareBytes t u<0→Lib.compareBytes s u<0
  |[],[],_,h,_=>by simp[Lib.compareBytes]at h
  |_::_,[],_,h,_=>by simp[Lib.compareBytes]at h
  |[],_::_,[],_,h=>by simp[Lib.compareBytes]at h
  |[],_::_,_::_,_,_=>by simp[Lib.compareBytes]
  |_::_,_::_,[],_,h=>by simp[Lib.compareBytes]at h
  |a::s,b::t,c::u,h1,h2=>by
    have ih:=aDC s t u;unfold Lib.compareBytes at h1 h2⊢;by_cases ab:a<b
    · by_cases bc:b<c
      · simp[UInt8.lt_trans ab bc]
      · by_cases cb:c<b
        · simp_all
        · have:b=c:=qDf (by simpa using cb) (by simpa using bc)
          subst this;simp[ab]
    · by_cases ba:b<a
      · simp_all
      · have:a=b:=qDf (by simpa using ba) (by simpa using ab)
        subst this;simp only[ab,if_false]at h1;by_cases ac:a<c
        · simp[ac]
        · by_cases ca:c<a
          · simp[ac,ca]at h2
          · simp only[ac,ca,if_false]at h2⊢
            exact ih h1 h2

/-- The first that is not 0. -/
def lex(x y:Int):Int:=cond (x !=0) x y
theorem zy(x y:Int):lex x y<0↔x<0∨x=0∧y<0:=by
  unfold lex
  grind
theorem RO(x y:Int):lex x y=0↔x=0∧y=0:=by
  unfold lex
  grind
theorem Y2(x y:Int):lex (-x) (-y)= - lex x y:=by
  unfold lex
  grind
theorem zw(k n:Int)(s:Str)(ks:List Val)(k' n':Int)(s':Str)(ks':List Val):bQ (.mk k n s ks) (.mk k' n' s' ks')=lex (kP k k') (lex (kP n n') (lex (Lib.compareBytes s s') (eZ ks ks'))):=by
  unfold bQ lex;rfl
theorem uo(a b:Val)(asx bs:List Val):eZ (a::asx) (b::bs)=lex (bQ a b) (eZ asx bs):=by
  simp only[eZ,lex]

mutual
theorem gF:∀(a b:Val),bQ a b=0↔a=b
  | .mk k n s ks,.mk k' n' s' ks'=>by
    rw[zw,RO,RO,RO,pF,pF,Qp,YZ ks ks'];simp
theorem YZ:∀(asx bs:List Val),eZ asx bs=0↔asx=bs
  |[],[]=>by simp[eZ]
  |[],_::_=>by simp[eZ]
  |_::_,[]=>by simp[eZ]
  |a::asx,b::bs=>by
    rw[uo,RO,gF a b,YZ asx bs];simp
end
mutual
theorem rO:∀(a b:Val),bQ b a= - bQ a b
  | .mk k n s ks,.mk k' n' s' ks'=>by
    rw[zw,zw,anp k k',anp n n',auU s s',ah4 ks ks',Y2,Y2,Y2]
theorem ah4:∀(asx bs:List Val),eZ bs asx= - eZ asx bs
  |[],[]=>by simp[eZ]
  |[],_::_=>by simp[eZ]
  |_::_,[]=>by simp[eZ]
  |a::asx,b::bs=>by
    rw[uo,uo,rO a b,ah4 asx bs,Y2]
end
mutual
theorem BF:∀(a b c:Val),bQ a b<0→bQ b c<0→bQ a c<0
  | .mk k n s ks,.mk k' n' s' ks',.mk k'' n'' s'' ks'',h1,h2=>by
    rw[zw,zy,zy,zy,ad7,pF,ad7,pF,Qp]at h1 h2⊢;rcases h1 with h1|⟨rfl,h1⟩
    · rcases h2 with h2|⟨rfl,h2⟩
      · left;omega
      · left;exact h1
    · rcases h2 with h2|⟨rfl,h2⟩
      · left;exact h2
      · right
        refine⟨rfl,?_⟩;rcases h1 with h1|⟨rfl,h1⟩
        · rcases h2 with h2|⟨rfl,h2⟩
          · left;omega
          · left;exact h1
        · rcases h2 with h2|⟨rfl,h2⟩
          · left;exact h2
          · right
            refine⟨rfl,?_⟩;rcases h1 with h1|⟨rfl,h1⟩
            · rcases h2 with h2|⟨rfl,h2⟩
              · left;exact aDC _ _ _ h1 h2
              · left;exact h1
            · rcases h2 with h2|⟨rfl,h2⟩
              · left;exact h2
              · right;exact⟨rfl,asC ks ks' ks'' h1 h2⟩
theorem asC:∀(asx bs cs:List Val),eZ asx bs<0→eZ bs cs<0→eZ asx cs<0
  |[],[],_,h,_=>by simp[eZ]at h
  |_::_,[],_,h,_=>by simp[eZ]at h
  |[],_::_,[],_,h=>by simp[eZ]at h
  |[],_::_,_::_,_,_=>by simp[eZ]
  |_::_,_::_,[],_,h=>by simp[eZ]at h
  |a::asx,b::bs,c::cs,h1,h2=>by
    rw[uo,zy,gF]at h1 h2⊢;rcases h1 with h1|⟨rfl,h1⟩
    · rcases h2 with h2|⟨rfl,h2⟩
      · left;exact BF a b c h1 h2
      · left;exact h1
    · rcases h2 with h2|⟨rfl,h2⟩
      · left;exact h2
      · right;exact⟨rfl,asC asx bs cs h1 h2⟩
end

def Wt(a b:Val):Bool:=decide (bQ a b≤0)
theorem ay1(a b c:Val)(h1:Wt a b=true)(h2:Wt b c=true):Wt a c=true:=by
  simp only[Wt,decide_eq_true_eq]at *;rcases qCX h1 with h1|h1
  · rcases qCX h2 with h2|h2
    · exact qDk (BF a b c h1 h2)
    · rw[(gF b c).1 h2]at h1;exact qDk h1
  · rw[(gF a b).1 h1];exact h2
def iA(a b:Val):Prop:=bQ a b<0
theorem oG(a:Val):¬iA a a:=by
  have:=(gF a a).2 rfl;unfold iA;omega
theorem acr{a b:Val}(h:iA a b):¬iA b a:=by
  unfold iA at *;rw[rO a b];omega

/-- The list in ascending order, each value once. -/
def Hr(a:Val):List Val→List Val
  |[]=>[a]
  |b::l=>cond (decide (bQ a b<0)) (a::b::l) (cond (bQ a b==0) (b::l) (b::Hr a l))
def sortV:List Val→List Val
  |[]=>[]
  |a::l=>Hr a (sortV l)

theorem agP(a:Val):∀(l:List Val) (x:Val),x∈Hr a l↔x=a∨x∈l
  |[],x=>by simp[Hr]
  |b::l,x=>by
    unfold Hr;by_cases h:bQ a b<0
    · simp[h]
    · by_cases h2:bQ a b=0
      · have:=(gF a b).1 h2
        subst this;simp[h2]
      · have e:(bQ a b==0)=false:=by simp[h2]
        simp only[h,decide_false,cond_false,e,qAh,agP a l x];constructor
        · rintro(h|h|h)
          · exact .inr (.inl h)
          · exact .inl h
          · exact .inr (.inr h)
        · rintro(h|h|h)
          · exact .inr (.inl h)
          · exact .inl h
          · exact .inr (.inr h)
theorem afX(a:Val):∀(l:List Val),l.Pairwise iA→(Hr a l).Pairwise iA
  |[],_=>by simp[Hr]
  |b::l,h=>by
    have h1:=qBn.1 h;unfold Hr;by_cases hc:bQ a b<0
    · simp only[hc,decide_true,cond_true]
      refine qBn.2 ⟨fun x hx=>?_,h⟩;rcases qAh.1 hx with rfl|hx
      · exact hc
      · exact BF a b x hc (h1.1 x hx)
    · by_cases h2:bQ a b=0
      · simp[h2];exact qBn.1 h
      · have e:(bQ a b==0)=false:=by simp[h2]
        simp only[hc,decide_false,cond_false,e];refine qBn.2 ⟨fun x hx=>?_,afX a l h1.2⟩;rcases(agP a l x).1 hx with rfl|hx
        · show bQ b x<0
          rw[rO x b];omega
        · exact h1.1 x hx
theorem aV:∀(l:List Val) (x:Val),x∈sortV l↔x∈l
  |[],x=>by simp[sortV]
  |a::l,x=>by rw[sortV,agP,aV l x];simp
theorem cZ:∀(l:List Val),(sortV l).Pairwise iA
  |[]=>by simp[sortV]
  |a::l=>afX a _ (cZ l)
theorem Bv:∀(l m:List Val),l.Pairwise iA→m.Pairwise iA→(∀x,x∈l↔x∈m)→l=m
  |[],[],_,_,_=>rfl
  |[],b::m,_,_,h=>by have:=(h b).2 (by simp);cases this
  |a::l,[],_,_,h=>by have:=(h a).1 (by simp);cases this
  |a::l,b::m,hl,hm,h=>by
    have h1:=qBn.1 hl;have h2:=qBn.1 hm;have e:a=b:=by
      rcases qAh.1 ((h a).1 (by simp))with e|ha
      · exact e
      · rcases qAh.1 ((h b).2 (by simp))with e|hb
        · exact e.symm
        · exact absurd (h1.1 b hb) (acr (h2.1 a ha))
    subst e;rw[Bv l m h1.2 h2.2 fun x=>?_];constructor
    · intro hx
      rcases qAh.1 ((h x).1 (by simp[hx]))with e|hx'
      · exact absurd (e▸h1.1 x hx) (oG a)
      · exact hx'
    · intro hx
      rcases qAh.1 ((h x).2 (by simp[hx]))with e|hx'
      · exact absurd (e▸h2.1 x hx) (oG a)
      · exact hx'
theorem vw{l m:List Val}(hm:m.Pairwise iA)(h:∀x,x∈m↔x∈l):m=sortV l:=
  Bv _ _ hm (cZ l) fun x=>by rw[h x,aV]
theorem eP(l:List Val):(sortV l).length≤l.length:=by
  have key:∀(a:Val) (l:List Val),(Hr a l).length≤l.length+1:=fun a l=>by
    induction l with
    |nil=>simp[Hr]
    |cons b l ih=>
      unfold Hr
      grind
  induction l with
  |nil=>simp[sortV]
  |cons a l ih=>rw[sortV];have:=key a (sortV l);simp;omega
end Abs
end Go.Proofs.YthgdaonechbgmaaGreat
